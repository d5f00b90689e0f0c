/- The functions, as the machine tells them: definitions. -/
import Derived.Test.YtmbbjdkcanoklaaVmThree
import Derived.Test.YtmbbjdkcanoklaaProg
set_option linter.unusedVariables false
set_option maxHeartbeats 4000000
set_option maxRecDepth 100000
namespace Go.Vm.T
open Go Go.Vm Go.Proofs
noncomputable def kl : List (Nat × List (Nat × List Nat)) := [(4, [(8, [3, 9, 10, 11, 12, 13])]), (6, [(6, [1, 2, 5, 6, 7]), (13, [2, 6, 8, 9, 10, 11])]), (7, [(6, [3, 4, 5]), (16, [3, 4, 7])]), (10, [(4, [2, 3, 5]), (9, [2, 3, 6])]), (13, [(3, [0, 1, 5, 6])]), (14, [(3, [2, 3, 7, 8]), (9, [2, 3, 7, 8, 9, 34, 35, 36])]), (15, [(4, [0, 1, 5])]), (16, [(3, [1, 2, 3, 7, 8]), (7, [2, 3, 7, 9]), (10, [2, 3, 7, 9, 10])]), (17, [(3, [1, 2, 7, 14, 15, 16])]), (18, [(3, [1, 2, 3, 7, 8])]), (26, [(14, [1, 2, 7]), (2000011, [1, 2, 5, 6, 999999])]), (27, [(4, [2, 3, 5]), (9, [2, 3, 6])]), (29, [(6, [3, 4, 6, 7, 8]), (15, [2, 3, 4, 5, 10, 11]), (23, [2, 4, 5, 10, 13, 14]), (2000039, [2, 3, 4, 5, 16, 17, 999999]), (1000000, [56])]), (33, [(3, [1, 2, 5, 6]), (7, [1, 2, 5, 7])]), (34, [(20, [1, 2, 9]), (2000005, [1, 2, 5, 6, 999999]), (2000007, [1, 2, 6, 999999]), (2000014, [1, 2, 7, 8, 999999]), (2000017, [1, 2, 7, 8, 999999])]), (35, [(4, [2, 3, 5]), (9, [2, 3, 6])]), (37, [(3, [0, 6, 7, 21, 22, 23])]), (38, [(4, [0, 6, 7, 17, 18, 19]), (12, [0, 6, 12, 40, 41, 42])]), (45, [(3, [1, 2, 5, 6]), (7, [1, 2, 5, 7])]), (47, [(3, [3, 5, 6])]), (52, [(5, [3, 4])]), (53, [(2, [0, 2, 7])]), (54, [(3, [0, 5, 6])]), (58, [(4, [0, 1, 7])]), (60, [(3, [0, 1, 2, 7, 8]), (2000010, [0, 1, 2, 7, 8, 9, 999999])]), (62, [(4, [0, 1, 2, 7])]), (63, [(5, [0, 1, 5, 6]), (10, [0, 1, 5, 6, 7, 8, 9]), (17, [0, 1, 5, 6, 7, 10, 11, 12, 13]), (23, [0, 1, 5, 6, 7, 10, 11, 15]), (2000021, [0, 1, 5, 6, 7, 10, 11, 12, 14, 999999])])]
noncomputable def kp := tabKeep2 kl
structure Lv where
  oriellaw17_ProgCompiles : Int → List (List C) → List (List C) → Option Bool
  oriellaw17_ProgMoves : Int → List (List C) → List (List C) → Int → Int → Int → Option Bool
  oriellaw17_ProgKeeps : Int → List (List C) → List (List C) → Int → Option Bool
  oriellaw17_ProgShapes : Int → List (List C) → List (List C) → Option Bool
  oriellaw17_awake : Option Bool
  prog_Compile : Int → List (List C) → List (List C) → Option (Int × Int × Int × (List (List C)) × (List (List C)))
  prog_maker_path : Int → Int → Int → List (List C) → List (List C) → Int → List (List C) → List (List C) → Option (Int × Int × Int × Int × Int × (List (List C)) × (List (List C)))
  prog_maker_step : Int → Int → Int → List (List C) → List (List C) → Int → Int → Option (Int × Int × Int × Int × Int × (List (List C)) × (List (List C)))
  prog_maker_seq : Int → Int → Int → List (List C) → List (List C) → List (List C) → Option (Int × Int × Int × Int × Int × (List (List C)) × (List (List C)))
  prog_maker_alt : Int → Int → Int → List (List C) → List (List C) → List (List C) → Option (Int × Int × Int × Int × Int × (List (List C)) × (List (List C)))
  prog_maker_state : Int → Int → Int → List (List C) → List (List C) → Option (Int × Int × Int × Int × (List (List C)) × (List (List C)))
  prog_maker_lay : Int → Int → Int → List (List C) → List (List C) → List (List C) → Option (Int × Int × Int × (List (List C)) × (List (List C)))
  prog_maker_free : Int → Int → Int → List (List C) → List (List C) → Int → Int → Option (Int × Int × Int × (List (List C)) × (List (List C)))
  prog_Closure : Int → Int → Int → List (List C) → List (List C) → List (List C) → List (List C) → Option (List (List C))
  orielref12_Right : Int → List (List C) → List (List C) → Option Bool
  orielref17_SameBits : List (List C) → List (List C) → Option Bool
  orielref12_Size : Int → List (List C) → List (List C) → Option Int
  orielref12_size : Int → List (List C) → List (List C) → Int → Option Int
  orielref12_sizeFilter : Int → ByteArray → ByteArray → ByteArray → List (List C) → List (List C) → Int → Option Int
  prog_Moves : Int → Int → Int → List (List C) → List (List C) → List (List C) → Int → Option (List (List C))
  orielref12_path : Int → List (List C) → List (List C) → Int → Option Bool
  orielref12_filter : Int → ByteArray → ByteArray → ByteArray → List (List C) → List (List C) → Int → Option Bool
  orielref12_named : ByteArray → ByteArray → Option Bool
  orielref04_Right : ByteArray → Option Bool
  orielref03_Plain : ByteArray → Option Bool
  orielref01_All : ByteArray → Option ((List (List C)) × Int × Int)
  orielref02_Start : Int → Option Bool
  orielref01_Rune : ByteArray → Int → Option (Int × Int × Int)
  orielref01_Put : Int → Option (List (List C))
  orielref01_cut : ByteArray → Int → Option Bool
  orielref01_value : ByteArray → Int → Int → Option Int
  orielref17_Compile : Int → List (List C) → List (List C) → Option (Int × Int × Int × (List (List C)) × (List (List C)))
  orielref02_Char : Int → Option Bool
  orielref02_Part : Int → Option Bool
  orielref01_begins : ByteArray → Int → List (List C) → Option Bool
  orielref17_add : Int → Int → Int → List (List C) → List (List C) → Int → List (List C) → List (List C) → Option (Int × Int × Int × (List (List C)) × (List (List C)) × Int × Int)
  orielref02_Blank : Int → Option Bool
  orielref17_edge : Int → Int → Int → List (List C) → List (List C) → Int → Int → Int → Int → Option (Int × Int × Int × (List (List C)) × (List (List C)))
  orielref05_Find : ByteArray → Int → ByteArray → Option Int
  orielref17_Same : Int → Int → Int → List (List C) → List (List C) → Int → Int → Int → List (List C) → List (List C) → Option Bool
  oriellaw17_bits : Int → Int → Option (List (List C))
  orielref12_SameFilter : Int → ByteArray → ByteArray → ByteArray → List (List C) → List (List C) → Int → ByteArray → ByteArray → ByteArray → List (List C) → List (List C) → Option Bool
  orielref12_Same : Int → List (List C) → List (List C) → Int → List (List C) → List (List C) → Option Bool
  orielref17_Closure : Int → Int → Int → List (List C) → List (List C) → List (List C) → List (List C) → Option (List (List C))
  orielref17_Moves : Int → Int → Int → List (List C) → List (List C) → List (List C) → Int → Option (List (List C))
noncomputable def oriellaw17_ProgCompiles_a : List Arg → Option (Int × (List (List C)) × (List (List C)))
  | [.v (.agg [.c (.int .i64 x0_0), .c (.row 25 x0_1), .c (.row 51 x0_2)])] => some (x0_0, x0_1, x0_2)
  | _ => none
noncomputable def oriellaw17_ProgCompiles_e (a : Int × (List (List C)) × (List (List C))) : List Arg := [.v (.agg [.c (C.int .i64 a.1), .c (C.row 25 a.2.1), .c (C.row 51 a.2.2)])]
theorem oriellaw17_ProgCompiles_ae {l : List Arg} {a : Int × (List (List C)) × (List (List C))} (h : oriellaw17_ProgCompiles_a l = some a) : l = oriellaw17_ProgCompiles_e a := by
  unfold oriellaw17_ProgCompiles_a at h
  split at h
  · cases h; rfl
  · cases h
noncomputable def oriellaw17_ProgCompiles_d : Res → Option Bool
  | ⟨.one (.d (.bool y0)), []⟩ => some y0
  | _ => none
noncomputable def oriellaw17_ProgCompiles_r (r : Bool) : Res := ⟨.one (.d (.bool r)), []⟩
theorem oriellaw17_ProgCompiles_dr {R : Res} {r : Bool} (h : oriellaw17_ProgCompiles_d R = some r) : R = oriellaw17_ProgCompiles_r r := by
  unfold oriellaw17_ProgCompiles_d at h
  split at h
  · cases h; rfl
  · cases h
noncomputable def oriellaw17_ProgCompiles_o (L : Lv) {Ω : Type} (f : FuncId) (l : List Arg) (K : Res → Option Ω) (next : Option Ω) : Option Ω := rowO 3 oriellaw17_ProgCompiles_a (fun a => L.oriellaw17_ProgCompiles a.1 a.2.1 a.2.2) oriellaw17_ProgCompiles_r f l K next
noncomputable def oriellaw17_ProgMoves_a : List Arg → Option (Int × (List (List C)) × (List (List C)) × Int × Int × Int)
  | [.v (.agg [.c (.int .i64 x0_0), .c (.row 25 x0_1), .c (.row 51 x0_2)]), .v (.one (.c (.int .u64 x1))), .v (.one (.c (.int .u64 x2))), .v (.one (.c (.int .i64 x3)))] => some (x0_0, x0_1, x0_2, x1, x2, x3)
  | _ => none
noncomputable def oriellaw17_ProgMoves_e (a : Int × (List (List C)) × (List (List C)) × Int × Int × Int) : List Arg := [.v (.agg [.c (C.int .i64 a.1), .c (C.row 25 a.2.1), .c (C.row 51 a.2.2.1)]), .v (.one (.c (C.int .u64 a.2.2.2.1))), .v (.one (.c (C.int .u64 a.2.2.2.2.1))), .v (.one (.c (C.int .i64 a.2.2.2.2.2)))]
theorem oriellaw17_ProgMoves_ae {l : List Arg} {a : Int × (List (List C)) × (List (List C)) × Int × Int × Int} (h : oriellaw17_ProgMoves_a l = some a) : l = oriellaw17_ProgMoves_e a := by
  unfold oriellaw17_ProgMoves_a at h
  split at h
  · cases h; rfl
  · cases h
noncomputable def oriellaw17_ProgMoves_d : Res → Option Bool
  | ⟨.one (.d (.bool y0)), []⟩ => some y0
  | _ => none
noncomputable def oriellaw17_ProgMoves_r (r : Bool) : Res := ⟨.one (.d (.bool r)), []⟩
theorem oriellaw17_ProgMoves_dr {R : Res} {r : Bool} (h : oriellaw17_ProgMoves_d R = some r) : R = oriellaw17_ProgMoves_r r := by
  unfold oriellaw17_ProgMoves_d at h
  split at h
  · cases h; rfl
  · cases h
noncomputable def oriellaw17_ProgMoves_o (L : Lv) {Ω : Type} (f : FuncId) (l : List Arg) (K : Res → Option Ω) (next : Option Ω) : Option Ω := rowO 4 oriellaw17_ProgMoves_a (fun a => L.oriellaw17_ProgMoves a.1 a.2.1 a.2.2.1 a.2.2.2.1 a.2.2.2.2.1 a.2.2.2.2.2) oriellaw17_ProgMoves_r f l K next
noncomputable def oriellaw17_ProgKeeps_a : List Arg → Option (Int × (List (List C)) × (List (List C)) × Int)
  | [.v (.agg [.c (.int .i64 x0_0), .c (.row 25 x0_1), .c (.row 51 x0_2)]), .v (.one (.c (.int .u8 x1)))] => some (x0_0, x0_1, x0_2, x1)
  | _ => none
noncomputable def oriellaw17_ProgKeeps_e (a : Int × (List (List C)) × (List (List C)) × Int) : List Arg := [.v (.agg [.c (C.int .i64 a.1), .c (C.row 25 a.2.1), .c (C.row 51 a.2.2.1)]), .v (.one (.c (C.int .u8 a.2.2.2)))]
theorem oriellaw17_ProgKeeps_ae {l : List Arg} {a : Int × (List (List C)) × (List (List C)) × Int} (h : oriellaw17_ProgKeeps_a l = some a) : l = oriellaw17_ProgKeeps_e a := by
  unfold oriellaw17_ProgKeeps_a at h
  split at h
  · cases h; rfl
  · cases h
noncomputable def oriellaw17_ProgKeeps_d : Res → Option Bool
  | ⟨.one (.d (.bool y0)), []⟩ => some y0
  | _ => none
noncomputable def oriellaw17_ProgKeeps_r (r : Bool) : Res := ⟨.one (.d (.bool r)), []⟩
theorem oriellaw17_ProgKeeps_dr {R : Res} {r : Bool} (h : oriellaw17_ProgKeeps_d R = some r) : R = oriellaw17_ProgKeeps_r r := by
  unfold oriellaw17_ProgKeeps_d at h
  split at h
  · cases h; rfl
  · cases h
noncomputable def oriellaw17_ProgKeeps_o (L : Lv) {Ω : Type} (f : FuncId) (l : List Arg) (K : Res → Option Ω) (next : Option Ω) : Option Ω := rowO 6 oriellaw17_ProgKeeps_a (fun a => L.oriellaw17_ProgKeeps a.1 a.2.1 a.2.2.1 a.2.2.2) oriellaw17_ProgKeeps_r f l K next
noncomputable def oriellaw17_ProgShapes_a : List Arg → Option (Int × (List (List C)) × (List (List C)))
  | [.v (.agg [.c (.int .i64 x0_0), .c (.row 25 x0_1), .c (.row 51 x0_2)])] => some (x0_0, x0_1, x0_2)
  | _ => none
noncomputable def oriellaw17_ProgShapes_e (a : Int × (List (List C)) × (List (List C))) : List Arg := [.v (.agg [.c (C.int .i64 a.1), .c (C.row 25 a.2.1), .c (C.row 51 a.2.2)])]
theorem oriellaw17_ProgShapes_ae {l : List Arg} {a : Int × (List (List C)) × (List (List C))} (h : oriellaw17_ProgShapes_a l = some a) : l = oriellaw17_ProgShapes_e a := by
  unfold oriellaw17_ProgShapes_a at h
  split at h
  · cases h; rfl
  · cases h
noncomputable def oriellaw17_ProgShapes_d : Res → Option Bool
  | ⟨.one (.d (.bool y0)), []⟩ => some y0
  | _ => none
noncomputable def oriellaw17_ProgShapes_r (r : Bool) : Res := ⟨.one (.d (.bool r)), []⟩
theorem oriellaw17_ProgShapes_dr {R : Res} {r : Bool} (h : oriellaw17_ProgShapes_d R = some r) : R = oriellaw17_ProgShapes_r r := by
  unfold oriellaw17_ProgShapes_d at h
  split at h
  · cases h; rfl
  · cases h
noncomputable def oriellaw17_ProgShapes_o (L : Lv) {Ω : Type} (f : FuncId) (l : List Arg) (K : Res → Option Ω) (next : Option Ω) : Option Ω := rowO 7 oriellaw17_ProgShapes_a (fun a => L.oriellaw17_ProgShapes a.1 a.2.1 a.2.2) oriellaw17_ProgShapes_r f l K next
noncomputable def oriellaw17_awake_a : List Arg → Option Unit
  | [] => some ()
  | _ => none
noncomputable def oriellaw17_awake_e (a : Unit) : List Arg := []
theorem oriellaw17_awake_ae {l : List Arg} {a : Unit} (h : oriellaw17_awake_a l = some a) : l = oriellaw17_awake_e a := by
  unfold oriellaw17_awake_a at h
  split at h
  · cases h; rfl
  · cases h
noncomputable def oriellaw17_awake_d : Res → Option Bool
  | ⟨.one (.d (.bool y0)), []⟩ => some y0
  | _ => none
noncomputable def oriellaw17_awake_r (r : Bool) : Res := ⟨.one (.d (.bool r)), []⟩
theorem oriellaw17_awake_dr {R : Res} {r : Bool} (h : oriellaw17_awake_d R = some r) : R = oriellaw17_awake_r r := by
  unfold oriellaw17_awake_d at h
  split at h
  · cases h; rfl
  · cases h
noncomputable def oriellaw17_awake_o (L : Lv) {Ω : Type} (f : FuncId) (l : List Arg) (K : Res → Option Ω) (next : Option Ω) : Option Ω := rowO 8 oriellaw17_awake_a (fun a => L.oriellaw17_awake) oriellaw17_awake_r f l K next
noncomputable def prog_Compile_a : List Arg → Option (Int × (List (List C)) × (List (List C)))
  | [.v (.agg [.c (.int .i64 x0_0), .c (.row 25 x0_1), .c (.row 51 x0_2)])] => some (x0_0, x0_1, x0_2)
  | _ => none
noncomputable def prog_Compile_e (a : Int × (List (List C)) × (List (List C))) : List Arg := [.v (.agg [.c (C.int .i64 a.1), .c (C.row 25 a.2.1), .c (C.row 51 a.2.2)])]
theorem prog_Compile_ae {l : List Arg} {a : Int × (List (List C)) × (List (List C))} (h : prog_Compile_a l = some a) : l = prog_Compile_e a := by
  unfold prog_Compile_a at h
  split at h
  · cases h; rfl
  · cases h
noncomputable def prog_Compile_d : Res → Option (Int × Int × Int × (List (List C)) × (List (List C)))
  | ⟨.agg [.d (.int .i64 y0), .d (.int .i64 y1), .d (.int .i64 y2), .own 56 y3, .own 51 y4], []⟩ => some (y0, y1, y2, y3, y4)
  | _ => none
noncomputable def prog_Compile_r (r : Int × Int × Int × (List (List C)) × (List (List C))) : Res := ⟨.agg [.d (.int .i64 r.1), .d (.int .i64 r.2.1), .d (.int .i64 r.2.2.1), .own 56 r.2.2.2.1, .own 51 r.2.2.2.2], []⟩
theorem prog_Compile_dr {R : Res} {r : Int × Int × Int × (List (List C)) × (List (List C))} (h : prog_Compile_d R = some r) : R = prog_Compile_r r := by
  unfold prog_Compile_d at h
  split at h
  · cases h; rfl
  · cases h
noncomputable def prog_Compile_o (L : Lv) {Ω : Type} (f : FuncId) (l : List Arg) (K : Res → Option Ω) (next : Option Ω) : Option Ω := rowO 11 prog_Compile_a (fun a => L.prog_Compile a.1 a.2.1 a.2.2) prog_Compile_r f l K next
noncomputable def prog_maker_path_a : List Arg → Option (Int × Int × Int × (List (List C)) × (List (List C)) × Int × (List (List C)) × (List (List C)))
  | [.ref 62 [.d (.int .i64 x0_0), .d (.int .i64 x0_1), .d (.int .i64 x0_2), .own 56 x0_3, .own 51 x0_4] 0, .v (.agg [.c (.int .i64 x1_0), .c (.row 25 x1_1), .c (.row 51 x1_2)])] => some (x0_0, x0_1, x0_2, x0_3, x0_4, x1_0, x1_1, x1_2)
  | _ => none
noncomputable def prog_maker_path_e (a : Int × Int × Int × (List (List C)) × (List (List C)) × Int × (List (List C)) × (List (List C))) : List Arg := [.ref 62 [.d (C.int .i64 a.1), .d (C.int .i64 a.2.1), .d (C.int .i64 a.2.2.1), .own 56 a.2.2.2.1, .own 51 a.2.2.2.2.1] 0, .v (.agg [.c (C.int .i64 a.2.2.2.2.2.1), .c (C.row 25 a.2.2.2.2.2.2.1), .c (C.row 51 a.2.2.2.2.2.2.2)])]
theorem prog_maker_path_ae {l : List Arg} {a : Int × Int × Int × (List (List C)) × (List (List C)) × Int × (List (List C)) × (List (List C))} (h : prog_maker_path_a l = some a) : l = prog_maker_path_e a := by
  unfold prog_maker_path_a at h
  split at h
  · cases h; rfl
  · cases h
noncomputable def prog_maker_path_d : Res → Option (Int × Int × Int × Int × Int × (List (List C)) × (List (List C)))
  | ⟨.tup [.one (.d (.int .i64 y0)), .one (.d (.int .i64 y1))], [[.d (.int .i64 y2), .d (.int .i64 y3), .d (.int .i64 y4), .own 56 y5, .own 51 y6]]⟩ => some (y0, y1, y2, y3, y4, y5, y6)
  | _ => none
noncomputable def prog_maker_path_r (r : Int × Int × Int × Int × Int × (List (List C)) × (List (List C))) : Res := ⟨.tup [.one (.d (.int .i64 r.1)), .one (.d (.int .i64 r.2.1))], [[.d (.int .i64 r.2.2.1), .d (.int .i64 r.2.2.2.1), .d (.int .i64 r.2.2.2.2.1), .own 56 r.2.2.2.2.2.1, .own 51 r.2.2.2.2.2.2]]⟩
theorem prog_maker_path_dr {R : Res} {r : Int × Int × Int × Int × Int × (List (List C)) × (List (List C))} (h : prog_maker_path_d R = some r) : R = prog_maker_path_r r := by
  unfold prog_maker_path_d at h
  split at h
  · cases h; rfl
  · cases h
noncomputable def prog_maker_path_o (L : Lv) {Ω : Type} (f : FuncId) (l : List Arg) (K : Res → Option Ω) (next : Option Ω) : Option Ω := rowO 28 prog_maker_path_a (fun a => L.prog_maker_path a.1 a.2.1 a.2.2.1 a.2.2.2.1 a.2.2.2.2.1 a.2.2.2.2.2.1 a.2.2.2.2.2.2.1 a.2.2.2.2.2.2.2) prog_maker_path_r f l K next
noncomputable def prog_maker_step_a : List Arg → Option (Int × Int × Int × (List (List C)) × (List (List C)) × Int × Int)
  | [.ref 62 [.d (.int .i64 x0_0), .d (.int .i64 x0_1), .d (.int .i64 x0_2), .own 56 x0_3, .own 51 x0_4] 0, .v (.one (.c (.int .i64 x1))), .v (.one (.c (.int .i64 x2)))] => some (x0_0, x0_1, x0_2, x0_3, x0_4, x1, x2)
  | _ => none
noncomputable def prog_maker_step_e (a : Int × Int × Int × (List (List C)) × (List (List C)) × Int × Int) : List Arg := [.ref 62 [.d (C.int .i64 a.1), .d (C.int .i64 a.2.1), .d (C.int .i64 a.2.2.1), .own 56 a.2.2.2.1, .own 51 a.2.2.2.2.1] 0, .v (.one (.c (C.int .i64 a.2.2.2.2.2.1))), .v (.one (.c (C.int .i64 a.2.2.2.2.2.2)))]
theorem prog_maker_step_ae {l : List Arg} {a : Int × Int × Int × (List (List C)) × (List (List C)) × Int × Int} (h : prog_maker_step_a l = some a) : l = prog_maker_step_e a := by
  unfold prog_maker_step_a at h
  split at h
  · cases h; rfl
  · cases h
noncomputable def prog_maker_step_d : Res → Option (Int × Int × Int × Int × Int × (List (List C)) × (List (List C)))
  | ⟨.tup [.one (.d (.int .i64 y0)), .one (.d (.int .i64 y1))], [[.d (.int .i64 y2), .d (.int .i64 y3), .d (.int .i64 y4), .own 56 y5, .own 51 y6]]⟩ => some (y0, y1, y2, y3, y4, y5, y6)
  | _ => none
noncomputable def prog_maker_step_r (r : Int × Int × Int × Int × Int × (List (List C)) × (List (List C))) : Res := ⟨.tup [.one (.d (.int .i64 r.1)), .one (.d (.int .i64 r.2.1))], [[.d (.int .i64 r.2.2.1), .d (.int .i64 r.2.2.2.1), .d (.int .i64 r.2.2.2.2.1), .own 56 r.2.2.2.2.2.1, .own 51 r.2.2.2.2.2.2]]⟩
theorem prog_maker_step_dr {R : Res} {r : Int × Int × Int × Int × Int × (List (List C)) × (List (List C))} (h : prog_maker_step_d R = some r) : R = prog_maker_step_r r := by
  unfold prog_maker_step_d at h
  split at h
  · cases h; rfl
  · cases h
noncomputable def prog_maker_step_o (L : Lv) {Ω : Type} (f : FuncId) (l : List Arg) (K : Res → Option Ω) (next : Option Ω) : Option Ω := rowO 36 prog_maker_step_a (fun a => L.prog_maker_step a.1 a.2.1 a.2.2.1 a.2.2.2.1 a.2.2.2.2.1 a.2.2.2.2.2.1 a.2.2.2.2.2.2) prog_maker_step_r f l K next
noncomputable def prog_maker_seq_a : List Arg → Option (Int × Int × Int × (List (List C)) × (List (List C)) × (List (List C)))
  | [.ref 62 [.d (.int .i64 x0_0), .d (.int .i64 x0_1), .d (.int .i64 x0_2), .own 56 x0_3, .own 51 x0_4] 0, .v (.one (.c (.row 25 x1)))] => some (x0_0, x0_1, x0_2, x0_3, x0_4, x1)
  | _ => none
noncomputable def prog_maker_seq_e (a : Int × Int × Int × (List (List C)) × (List (List C)) × (List (List C))) : List Arg := [.ref 62 [.d (C.int .i64 a.1), .d (C.int .i64 a.2.1), .d (C.int .i64 a.2.2.1), .own 56 a.2.2.2.1, .own 51 a.2.2.2.2.1] 0, .v (.one (.c (C.row 25 a.2.2.2.2.2)))]
theorem prog_maker_seq_ae {l : List Arg} {a : Int × Int × Int × (List (List C)) × (List (List C)) × (List (List C))} (h : prog_maker_seq_a l = some a) : l = prog_maker_seq_e a := by
  unfold prog_maker_seq_a at h
  split at h
  · cases h; rfl
  · cases h
noncomputable def prog_maker_seq_d : Res → Option (Int × Int × Int × Int × Int × (List (List C)) × (List (List C)))
  | ⟨.tup [.one (.d (.int .i64 y0)), .one (.d (.int .i64 y1))], [[.d (.int .i64 y2), .d (.int .i64 y3), .d (.int .i64 y4), .own 56 y5, .own 51 y6]]⟩ => some (y0, y1, y2, y3, y4, y5, y6)
  | _ => none
noncomputable def prog_maker_seq_r (r : Int × Int × Int × Int × Int × (List (List C)) × (List (List C))) : Res := ⟨.tup [.one (.d (.int .i64 r.1)), .one (.d (.int .i64 r.2.1))], [[.d (.int .i64 r.2.2.1), .d (.int .i64 r.2.2.2.1), .d (.int .i64 r.2.2.2.2.1), .own 56 r.2.2.2.2.2.1, .own 51 r.2.2.2.2.2.2]]⟩
theorem prog_maker_seq_dr {R : Res} {r : Int × Int × Int × Int × Int × (List (List C)) × (List (List C))} (h : prog_maker_seq_d R = some r) : R = prog_maker_seq_r r := by
  unfold prog_maker_seq_d at h
  split at h
  · cases h; rfl
  · cases h
noncomputable def prog_maker_seq_o (L : Lv) {Ω : Type} (f : FuncId) (l : List Arg) (K : Res → Option Ω) (next : Option Ω) : Option Ω := rowO 37 prog_maker_seq_a (fun a => L.prog_maker_seq a.1 a.2.1 a.2.2.1 a.2.2.2.1 a.2.2.2.2.1 a.2.2.2.2.2) prog_maker_seq_r f l K next
noncomputable def prog_maker_alt_a : List Arg → Option (Int × Int × Int × (List (List C)) × (List (List C)) × (List (List C)))
  | [.ref 62 [.d (.int .i64 x0_0), .d (.int .i64 x0_1), .d (.int .i64 x0_2), .own 56 x0_3, .own 51 x0_4] 0, .v (.one (.c (.row 25 x1)))] => some (x0_0, x0_1, x0_2, x0_3, x0_4, x1)
  | _ => none
noncomputable def prog_maker_alt_e (a : Int × Int × Int × (List (List C)) × (List (List C)) × (List (List C))) : List Arg := [.ref 62 [.d (C.int .i64 a.1), .d (C.int .i64 a.2.1), .d (C.int .i64 a.2.2.1), .own 56 a.2.2.2.1, .own 51 a.2.2.2.2.1] 0, .v (.one (.c (C.row 25 a.2.2.2.2.2)))]
theorem prog_maker_alt_ae {l : List Arg} {a : Int × Int × Int × (List (List C)) × (List (List C)) × (List (List C))} (h : prog_maker_alt_a l = some a) : l = prog_maker_alt_e a := by
  unfold prog_maker_alt_a at h
  split at h
  · cases h; rfl
  · cases h
noncomputable def prog_maker_alt_d : Res → Option (Int × Int × Int × Int × Int × (List (List C)) × (List (List C)))
  | ⟨.tup [.one (.d (.int .i64 y0)), .one (.d (.int .i64 y1))], [[.d (.int .i64 y2), .d (.int .i64 y3), .d (.int .i64 y4), .own 56 y5, .own 51 y6]]⟩ => some (y0, y1, y2, y3, y4, y5, y6)
  | _ => none
noncomputable def prog_maker_alt_r (r : Int × Int × Int × Int × Int × (List (List C)) × (List (List C))) : Res := ⟨.tup [.one (.d (.int .i64 r.1)), .one (.d (.int .i64 r.2.1))], [[.d (.int .i64 r.2.2.1), .d (.int .i64 r.2.2.2.1), .d (.int .i64 r.2.2.2.2.1), .own 56 r.2.2.2.2.2.1, .own 51 r.2.2.2.2.2.2]]⟩
theorem prog_maker_alt_dr {R : Res} {r : Int × Int × Int × Int × Int × (List (List C)) × (List (List C))} (h : prog_maker_alt_d R = some r) : R = prog_maker_alt_r r := by
  unfold prog_maker_alt_d at h
  split at h
  · cases h; rfl
  · cases h
noncomputable def prog_maker_alt_o (L : Lv) {Ω : Type} (f : FuncId) (l : List Arg) (K : Res → Option Ω) (next : Option Ω) : Option Ω := rowO 38 prog_maker_alt_a (fun a => L.prog_maker_alt a.1 a.2.1 a.2.2.1 a.2.2.2.1 a.2.2.2.2.1 a.2.2.2.2.2) prog_maker_alt_r f l K next
noncomputable def prog_maker_state_a : List Arg → Option (Int × Int × Int × (List (List C)) × (List (List C)))
  | [.ref 62 [.d (.int .i64 x0_0), .d (.int .i64 x0_1), .d (.int .i64 x0_2), .own 56 x0_3, .own 51 x0_4] 0] => some (x0_0, x0_1, x0_2, x0_3, x0_4)
  | _ => none
noncomputable def prog_maker_state_e (a : Int × Int × Int × (List (List C)) × (List (List C))) : List Arg := [.ref 62 [.d (C.int .i64 a.1), .d (C.int .i64 a.2.1), .d (C.int .i64 a.2.2.1), .own 56 a.2.2.2.1, .own 51 a.2.2.2.2] 0]
theorem prog_maker_state_ae {l : List Arg} {a : Int × Int × Int × (List (List C)) × (List (List C))} (h : prog_maker_state_a l = some a) : l = prog_maker_state_e a := by
  unfold prog_maker_state_a at h
  split at h
  · cases h; rfl
  · cases h
noncomputable def prog_maker_state_d : Res → Option (Int × Int × Int × Int × (List (List C)) × (List (List C)))
  | ⟨.one (.d (.int .i64 y0)), [[.d (.int .i64 y1), .d (.int .i64 y2), .d (.int .i64 y3), .own 56 y4, .own 51 y5]]⟩ => some (y0, y1, y2, y3, y4, y5)
  | _ => none
noncomputable def prog_maker_state_r (r : Int × Int × Int × Int × (List (List C)) × (List (List C))) : Res := ⟨.one (.d (.int .i64 r.1)), [[.d (.int .i64 r.2.1), .d (.int .i64 r.2.2.1), .d (.int .i64 r.2.2.2.1), .own 56 r.2.2.2.2.1, .own 51 r.2.2.2.2.2]]⟩
theorem prog_maker_state_dr {R : Res} {r : Int × Int × Int × Int × (List (List C)) × (List (List C))} (h : prog_maker_state_d R = some r) : R = prog_maker_state_r r := by
  unfold prog_maker_state_d at h
  split at h
  · cases h; rfl
  · cases h
noncomputable def prog_maker_state_o (L : Lv) {Ω : Type} (f : FuncId) (l : List Arg) (K : Res → Option Ω) (next : Option Ω) : Option Ω := rowO 39 prog_maker_state_a (fun a => L.prog_maker_state a.1 a.2.1 a.2.2.1 a.2.2.2.1 a.2.2.2.2) prog_maker_state_r f l K next
noncomputable def prog_maker_lay_a : List Arg → Option (Int × Int × Int × (List (List C)) × (List (List C)) × (List (List C)))
  | [.ref 62 [.d (.int .i64 x0_0), .d (.int .i64 x0_1), .d (.int .i64 x0_2), .own 56 x0_3, .own 51 x0_4] 0, .v (.one (.c (.row 56 x1)))] => some (x0_0, x0_1, x0_2, x0_3, x0_4, x1)
  | _ => none
noncomputable def prog_maker_lay_e (a : Int × Int × Int × (List (List C)) × (List (List C)) × (List (List C))) : List Arg := [.ref 62 [.d (C.int .i64 a.1), .d (C.int .i64 a.2.1), .d (C.int .i64 a.2.2.1), .own 56 a.2.2.2.1, .own 51 a.2.2.2.2.1] 0, .v (.one (.c (C.row 56 a.2.2.2.2.2)))]
theorem prog_maker_lay_ae {l : List Arg} {a : Int × Int × Int × (List (List C)) × (List (List C)) × (List (List C))} (h : prog_maker_lay_a l = some a) : l = prog_maker_lay_e a := by
  unfold prog_maker_lay_a at h
  split at h
  · cases h; rfl
  · cases h
noncomputable def prog_maker_lay_d : Res → Option (Int × Int × Int × (List (List C)) × (List (List C)))
  | ⟨.tup [], [[.d (.int .i64 y0), .d (.int .i64 y1), .d (.int .i64 y2), .own 56 y3, .own 51 y4]]⟩ => some (y0, y1, y2, y3, y4)
  | _ => none
noncomputable def prog_maker_lay_r (r : Int × Int × Int × (List (List C)) × (List (List C))) : Res := ⟨.tup [], [[.d (.int .i64 r.1), .d (.int .i64 r.2.1), .d (.int .i64 r.2.2.1), .own 56 r.2.2.2.1, .own 51 r.2.2.2.2]]⟩
theorem prog_maker_lay_dr {R : Res} {r : Int × Int × Int × (List (List C)) × (List (List C))} (h : prog_maker_lay_d R = some r) : R = prog_maker_lay_r r := by
  unfold prog_maker_lay_d at h
  split at h
  · cases h; rfl
  · cases h
noncomputable def prog_maker_lay_o (L : Lv) {Ω : Type} (f : FuncId) (l : List Arg) (K : Res → Option Ω) (next : Option Ω) : Option Ω := rowO 48 prog_maker_lay_a (fun a => L.prog_maker_lay a.1 a.2.1 a.2.2.1 a.2.2.2.1 a.2.2.2.2.1 a.2.2.2.2.2) prog_maker_lay_r f l K next
noncomputable def prog_maker_free_a : List Arg → Option (Int × Int × Int × (List (List C)) × (List (List C)) × Int × Int)
  | [.ref 62 [.d (.int .i64 x0_0), .d (.int .i64 x0_1), .d (.int .i64 x0_2), .own 56 x0_3, .own 51 x0_4] 0, .v (.one (.c (.int .i64 x1))), .v (.one (.c (.int .i64 x2)))] => some (x0_0, x0_1, x0_2, x0_3, x0_4, x1, x2)
  | _ => none
noncomputable def prog_maker_free_e (a : Int × Int × Int × (List (List C)) × (List (List C)) × Int × Int) : List Arg := [.ref 62 [.d (C.int .i64 a.1), .d (C.int .i64 a.2.1), .d (C.int .i64 a.2.2.1), .own 56 a.2.2.2.1, .own 51 a.2.2.2.2.1] 0, .v (.one (.c (C.int .i64 a.2.2.2.2.2.1))), .v (.one (.c (C.int .i64 a.2.2.2.2.2.2)))]
theorem prog_maker_free_ae {l : List Arg} {a : Int × Int × Int × (List (List C)) × (List (List C)) × Int × Int} (h : prog_maker_free_a l = some a) : l = prog_maker_free_e a := by
  unfold prog_maker_free_a at h
  split at h
  · cases h; rfl
  · cases h
noncomputable def prog_maker_free_d : Res → Option (Int × Int × Int × (List (List C)) × (List (List C)))
  | ⟨.tup [], [[.d (.int .i64 y0), .d (.int .i64 y1), .d (.int .i64 y2), .own 56 y3, .own 51 y4]]⟩ => some (y0, y1, y2, y3, y4)
  | _ => none
noncomputable def prog_maker_free_r (r : Int × Int × Int × (List (List C)) × (List (List C))) : Res := ⟨.tup [], [[.d (.int .i64 r.1), .d (.int .i64 r.2.1), .d (.int .i64 r.2.2.1), .own 56 r.2.2.2.1, .own 51 r.2.2.2.2]]⟩
theorem prog_maker_free_dr {R : Res} {r : Int × Int × Int × (List (List C)) × (List (List C))} (h : prog_maker_free_d R = some r) : R = prog_maker_free_r r := by
  unfold prog_maker_free_d at h
  split at h
  · cases h; rfl
  · cases h
noncomputable def prog_maker_free_o (L : Lv) {Ω : Type} (f : FuncId) (l : List Arg) (K : Res → Option Ω) (next : Option Ω) : Option Ω := rowO 40 prog_maker_free_a (fun a => L.prog_maker_free a.1 a.2.1 a.2.2.1 a.2.2.2.1 a.2.2.2.2.1 a.2.2.2.2.2.1 a.2.2.2.2.2.2) prog_maker_free_r f l K next
noncomputable def prog_Closure_a : List Arg → Option (Int × Int × Int × (List (List C)) × (List (List C)) × (List (List C)) × (List (List C)))
  | [.v (.agg [.c (.int .i64 x0_0), .c (.int .i64 x0_1), .c (.int .i64 x0_2), .c (.row 56 x0_3), .c (.row 51 x0_4)]), .v (.one (.c (.row 3 x1))), .v (.one (.c (.row 4 x2)))] => some (x0_0, x0_1, x0_2, x0_3, x0_4, x1, x2)
  | _ => none
noncomputable def prog_Closure_e (a : Int × Int × Int × (List (List C)) × (List (List C)) × (List (List C)) × (List (List C))) : List Arg := [.v (.agg [.c (C.int .i64 a.1), .c (C.int .i64 a.2.1), .c (C.int .i64 a.2.2.1), .c (C.row 56 a.2.2.2.1), .c (C.row 51 a.2.2.2.2.1)]), .v (.one (.c (C.row 3 a.2.2.2.2.2.1))), .v (.one (.c (C.row 4 a.2.2.2.2.2.2)))]
theorem prog_Closure_ae {l : List Arg} {a : Int × Int × Int × (List (List C)) × (List (List C)) × (List (List C)) × (List (List C))} (h : prog_Closure_a l = some a) : l = prog_Closure_e a := by
  unfold prog_Closure_a at h
  split at h
  · cases h; rfl
  · cases h
noncomputable def prog_Closure_d : Res → Option (List (List C))
  | ⟨.one (.own 4 y0), []⟩ => some y0
  | _ => none
noncomputable def prog_Closure_r (r : (List (List C))) : Res := ⟨.one (.own 4 r), []⟩
theorem prog_Closure_dr {R : Res} {r : (List (List C))} (h : prog_Closure_d R = some r) : R = prog_Closure_r r := by
  unfold prog_Closure_d at h
  split at h
  · cases h; rfl
  · cases h
noncomputable def prog_Closure_o (L : Lv) {Ω : Type} (f : FuncId) (l : List Arg) (K : Res → Option Ω) (next : Option Ω) : Option Ω := rowO 14 prog_Closure_a (fun a => L.prog_Closure a.1 a.2.1 a.2.2.1 a.2.2.2.1 a.2.2.2.2.1 a.2.2.2.2.2.1 a.2.2.2.2.2.2) prog_Closure_r f l K next
noncomputable def orielref12_Right_a : List Arg → Option (Int × (List (List C)) × (List (List C)))
  | [.v (.agg [.c (.int .i64 x0_0), .c (.row 25 x0_1), .c (.row 51 x0_2)])] => some (x0_0, x0_1, x0_2)
  | _ => none
noncomputable def orielref12_Right_e (a : Int × (List (List C)) × (List (List C))) : List Arg := [.v (.agg [.c (C.int .i64 a.1), .c (C.row 25 a.2.1), .c (C.row 51 a.2.2)])]
theorem orielref12_Right_ae {l : List Arg} {a : Int × (List (List C)) × (List (List C))} (h : orielref12_Right_a l = some a) : l = orielref12_Right_e a := by
  unfold orielref12_Right_a at h
  split at h
  · cases h; rfl
  · cases h
noncomputable def orielref12_Right_d : Res → Option Bool
  | ⟨.one (.d (.bool y0)), []⟩ => some y0
  | _ => none
noncomputable def orielref12_Right_r (r : Bool) : Res := ⟨.one (.d (.bool r)), []⟩
theorem orielref12_Right_dr {R : Res} {r : Bool} (h : orielref12_Right_d R = some r) : R = orielref12_Right_r r := by
  unfold orielref12_Right_d at h
  split at h
  · cases h; rfl
  · cases h
noncomputable def orielref12_Right_o (L : Lv) {Ω : Type} (f : FuncId) (l : List Arg) (K : Res → Option Ω) (next : Option Ω) : Option Ω := rowO 9 orielref12_Right_a (fun a => L.orielref12_Right a.1 a.2.1 a.2.2) orielref12_Right_r f l K next
noncomputable def orielref17_SameBits_a : List Arg → Option ((List (List C)) × (List (List C)))
  | [.v (.one (.c (.row 4 x0))), .v (.one (.c (.row 4 x1)))] => some (x0, x1)
  | _ => none
noncomputable def orielref17_SameBits_e (a : (List (List C)) × (List (List C))) : List Arg := [.v (.one (.c (C.row 4 a.1))), .v (.one (.c (C.row 4 a.2)))]
theorem orielref17_SameBits_ae {l : List Arg} {a : (List (List C)) × (List (List C))} (h : orielref17_SameBits_a l = some a) : l = orielref17_SameBits_e a := by
  unfold orielref17_SameBits_a at h
  split at h
  · cases h; rfl
  · cases h
noncomputable def orielref17_SameBits_d : Res → Option Bool
  | ⟨.one (.d (.bool y0)), []⟩ => some y0
  | _ => none
noncomputable def orielref17_SameBits_r (r : Bool) : Res := ⟨.one (.d (.bool r)), []⟩
theorem orielref17_SameBits_dr {R : Res} {r : Bool} (h : orielref17_SameBits_d R = some r) : R = orielref17_SameBits_r r := by
  unfold orielref17_SameBits_d at h
  split at h
  · cases h; rfl
  · cases h
noncomputable def orielref17_SameBits_o (L : Lv) {Ω : Type} (f : FuncId) (l : List Arg) (K : Res → Option Ω) (next : Option Ω) : Option Ω := rowO 15 orielref17_SameBits_a (fun a => L.orielref17_SameBits a.1 a.2) orielref17_SameBits_r f l K next
noncomputable def orielref12_Size_a : List Arg → Option (Int × (List (List C)) × (List (List C)))
  | [.v (.agg [.c (.int .i64 x0_0), .c (.row 25 x0_1), .c (.row 51 x0_2)])] => some (x0_0, x0_1, x0_2)
  | _ => none
noncomputable def orielref12_Size_e (a : Int × (List (List C)) × (List (List C))) : List Arg := [.v (.agg [.c (C.int .i64 a.1), .c (C.row 25 a.2.1), .c (C.row 51 a.2.2)])]
theorem orielref12_Size_ae {l : List Arg} {a : Int × (List (List C)) × (List (List C))} (h : orielref12_Size_a l = some a) : l = orielref12_Size_e a := by
  unfold orielref12_Size_a at h
  split at h
  · cases h; rfl
  · cases h
noncomputable def orielref12_Size_d : Res → Option Int
  | ⟨.one (.d (.int .i64 y0)), []⟩ => some y0
  | _ => none
noncomputable def orielref12_Size_r (r : Int) : Res := ⟨.one (.d (.int .i64 r)), []⟩
theorem orielref12_Size_dr {R : Res} {r : Int} (h : orielref12_Size_d R = some r) : R = orielref12_Size_r r := by
  unfold orielref12_Size_d at h
  split at h
  · cases h; rfl
  · cases h
noncomputable def orielref12_Size_o (L : Lv) {Ω : Type} (f : FuncId) (l : List Arg) (K : Res → Option Ω) (next : Option Ω) : Option Ω := rowO 25 orielref12_Size_a (fun a => L.orielref12_Size a.1 a.2.1 a.2.2) orielref12_Size_r f l K next
noncomputable def orielref12_size_a : List Arg → Option (Int × (List (List C)) × (List (List C)) × Int)
  | [.v (.agg [.c (.int .i64 x0_0), .c (.row 25 x0_1), .c (.row 51 x0_2)]), .v (.one (.c (.int .i64 x1)))] => some (x0_0, x0_1, x0_2, x1)
  | _ => none
noncomputable def orielref12_size_e (a : Int × (List (List C)) × (List (List C)) × Int) : List Arg := [.v (.agg [.c (C.int .i64 a.1), .c (C.row 25 a.2.1), .c (C.row 51 a.2.2.1)]), .v (.one (.c (C.int .i64 a.2.2.2)))]
theorem orielref12_size_ae {l : List Arg} {a : Int × (List (List C)) × (List (List C)) × Int} (h : orielref12_size_a l = some a) : l = orielref12_size_e a := by
  unfold orielref12_size_a at h
  split at h
  · cases h; rfl
  · cases h
noncomputable def orielref12_size_d : Res → Option Int
  | ⟨.one (.d (.int .i64 y0)), []⟩ => some y0
  | _ => none
noncomputable def orielref12_size_r (r : Int) : Res := ⟨.one (.d (.int .i64 r)), []⟩
theorem orielref12_size_dr {R : Res} {r : Int} (h : orielref12_size_d R = some r) : R = orielref12_size_r r := by
  unfold orielref12_size_d at h
  split at h
  · cases h; rfl
  · cases h
noncomputable def orielref12_size_o (L : Lv) {Ω : Type} (f : FuncId) (l : List Arg) (K : Res → Option Ω) (next : Option Ω) : Option Ω := rowO 33 orielref12_size_a (fun a => L.orielref12_size a.1 a.2.1 a.2.2.1 a.2.2.2) orielref12_size_r f l K next
noncomputable def orielref12_sizeFilter_a : List Arg → Option (Int × ByteArray × ByteArray × ByteArray × (List (List C)) × (List (List C)) × Int)
  | [.v (.agg [.c (.int .i64 x0_0), .c (.str x0_1), .c (.str x0_2), .c (.str x0_3), .c (.row 51 x0_4), .c (.row 25 x0_5)]), .v (.one (.c (.int .i64 x1)))] => some (x0_0, x0_1, x0_2, x0_3, x0_4, x0_5, x1)
  | _ => none
noncomputable def orielref12_sizeFilter_e (a : Int × ByteArray × ByteArray × ByteArray × (List (List C)) × (List (List C)) × Int) : List Arg := [.v (.agg [.c (C.int .i64 a.1), .c (C.str a.2.1), .c (C.str a.2.2.1), .c (C.str a.2.2.2.1), .c (C.row 51 a.2.2.2.2.1), .c (C.row 25 a.2.2.2.2.2.1)]), .v (.one (.c (C.int .i64 a.2.2.2.2.2.2)))]
theorem orielref12_sizeFilter_ae {l : List Arg} {a : Int × ByteArray × ByteArray × ByteArray × (List (List C)) × (List (List C)) × Int} (h : orielref12_sizeFilter_a l = some a) : l = orielref12_sizeFilter_e a := by
  unfold orielref12_sizeFilter_a at h
  split at h
  · cases h; rfl
  · cases h
noncomputable def orielref12_sizeFilter_d : Res → Option Int
  | ⟨.one (.d (.int .i64 y0)), []⟩ => some y0
  | _ => none
noncomputable def orielref12_sizeFilter_r (r : Int) : Res := ⟨.one (.d (.int .i64 r)), []⟩
theorem orielref12_sizeFilter_dr {R : Res} {r : Int} (h : orielref12_sizeFilter_d R = some r) : R = orielref12_sizeFilter_r r := by
  unfold orielref12_sizeFilter_d at h
  split at h
  · cases h; rfl
  · cases h
noncomputable def orielref12_sizeFilter_o (L : Lv) {Ω : Type} (f : FuncId) (l : List Arg) (K : Res → Option Ω) (next : Option Ω) : Option Ω := rowO 45 orielref12_sizeFilter_a (fun a => L.orielref12_sizeFilter a.1 a.2.1 a.2.2.1 a.2.2.2.1 a.2.2.2.2.1 a.2.2.2.2.2.1 a.2.2.2.2.2.2) orielref12_sizeFilter_r f l K next
noncomputable def prog_Moves_a : List Arg → Option (Int × Int × Int × (List (List C)) × (List (List C)) × (List (List C)) × Int)
  | [.v (.agg [.c (.int .i64 x0_0), .c (.int .i64 x0_1), .c (.int .i64 x0_2), .c (.row 56 x0_3), .c (.row 51 x0_4)]), .v (.one (.c (.row 4 x1))), .v (.one (.c (.int .i64 x2)))] => some (x0_0, x0_1, x0_2, x0_3, x0_4, x1, x2)
  | _ => none
noncomputable def prog_Moves_e (a : Int × Int × Int × (List (List C)) × (List (List C)) × (List (List C)) × Int) : List Arg := [.v (.agg [.c (C.int .i64 a.1), .c (C.int .i64 a.2.1), .c (C.int .i64 a.2.2.1), .c (C.row 56 a.2.2.2.1), .c (C.row 51 a.2.2.2.2.1)]), .v (.one (.c (C.row 4 a.2.2.2.2.2.1))), .v (.one (.c (C.int .i64 a.2.2.2.2.2.2)))]
theorem prog_Moves_ae {l : List Arg} {a : Int × Int × Int × (List (List C)) × (List (List C)) × (List (List C)) × Int} (h : prog_Moves_a l = some a) : l = prog_Moves_e a := by
  unfold prog_Moves_a at h
  split at h
  · cases h; rfl
  · cases h
noncomputable def prog_Moves_d : Res → Option (List (List C))
  | ⟨.one (.own 4 y0), []⟩ => some y0
  | _ => none
noncomputable def prog_Moves_r (r : (List (List C))) : Res := ⟨.one (.own 4 r), []⟩
theorem prog_Moves_dr {R : Res} {r : (List (List C))} (h : prog_Moves_d R = some r) : R = prog_Moves_r r := by
  unfold prog_Moves_d at h
  split at h
  · cases h; rfl
  · cases h
noncomputable def prog_Moves_o (L : Lv) {Ω : Type} (f : FuncId) (l : List Arg) (K : Res → Option Ω) (next : Option Ω) : Option Ω := rowO 17 prog_Moves_a (fun a => L.prog_Moves a.1 a.2.1 a.2.2.1 a.2.2.2.1 a.2.2.2.2.1 a.2.2.2.2.2.1 a.2.2.2.2.2.2) prog_Moves_r f l K next
noncomputable def orielref12_path_a : List Arg → Option (Int × (List (List C)) × (List (List C)) × Int)
  | [.v (.agg [.c (.int .i64 x0_0), .c (.row 25 x0_1), .c (.row 51 x0_2)]), .v (.one (.c (.int .i64 x1)))] => some (x0_0, x0_1, x0_2, x1)
  | _ => none
noncomputable def orielref12_path_e (a : Int × (List (List C)) × (List (List C)) × Int) : List Arg := [.v (.agg [.c (C.int .i64 a.1), .c (C.row 25 a.2.1), .c (C.row 51 a.2.2.1)]), .v (.one (.c (C.int .i64 a.2.2.2)))]
theorem orielref12_path_ae {l : List Arg} {a : Int × (List (List C)) × (List (List C)) × Int} (h : orielref12_path_a l = some a) : l = orielref12_path_e a := by
  unfold orielref12_path_a at h
  split at h
  · cases h; rfl
  · cases h
noncomputable def orielref12_path_d : Res → Option Bool
  | ⟨.one (.d (.bool y0)), []⟩ => some y0
  | _ => none
noncomputable def orielref12_path_r (r : Bool) : Res := ⟨.one (.d (.bool r)), []⟩
theorem orielref12_path_dr {R : Res} {r : Bool} (h : orielref12_path_d R = some r) : R = orielref12_path_r r := by
  unfold orielref12_path_d at h
  split at h
  · cases h; rfl
  · cases h
noncomputable def orielref12_path_o (L : Lv) {Ω : Type} (f : FuncId) (l : List Arg) (K : Res → Option Ω) (next : Option Ω) : Option Ω := rowO 26 orielref12_path_a (fun a => L.orielref12_path a.1 a.2.1 a.2.2.1 a.2.2.2) orielref12_path_r f l K next
noncomputable def orielref12_filter_a : List Arg → Option (Int × ByteArray × ByteArray × ByteArray × (List (List C)) × (List (List C)) × Int)
  | [.v (.agg [.c (.int .i64 x0_0), .c (.str x0_1), .c (.str x0_2), .c (.str x0_3), .c (.row 51 x0_4), .c (.row 25 x0_5)]), .v (.one (.c (.int .i64 x1)))] => some (x0_0, x0_1, x0_2, x0_3, x0_4, x0_5, x1)
  | _ => none
noncomputable def orielref12_filter_e (a : Int × ByteArray × ByteArray × ByteArray × (List (List C)) × (List (List C)) × Int) : List Arg := [.v (.agg [.c (C.int .i64 a.1), .c (C.str a.2.1), .c (C.str a.2.2.1), .c (C.str a.2.2.2.1), .c (C.row 51 a.2.2.2.2.1), .c (C.row 25 a.2.2.2.2.2.1)]), .v (.one (.c (C.int .i64 a.2.2.2.2.2.2)))]
theorem orielref12_filter_ae {l : List Arg} {a : Int × ByteArray × ByteArray × ByteArray × (List (List C)) × (List (List C)) × Int} (h : orielref12_filter_a l = some a) : l = orielref12_filter_e a := by
  unfold orielref12_filter_a at h
  split at h
  · cases h; rfl
  · cases h
noncomputable def orielref12_filter_d : Res → Option Bool
  | ⟨.one (.d (.bool y0)), []⟩ => some y0
  | _ => none
noncomputable def orielref12_filter_r (r : Bool) : Res := ⟨.one (.d (.bool r)), []⟩
theorem orielref12_filter_dr {R : Res} {r : Bool} (h : orielref12_filter_d R = some r) : R = orielref12_filter_r r := by
  unfold orielref12_filter_d at h
  split at h
  · cases h; rfl
  · cases h
noncomputable def orielref12_filter_o (L : Lv) {Ω : Type} (f : FuncId) (l : List Arg) (K : Res → Option Ω) (next : Option Ω) : Option Ω := rowO 34 orielref12_filter_a (fun a => L.orielref12_filter a.1 a.2.1 a.2.2.1 a.2.2.2.1 a.2.2.2.2.1 a.2.2.2.2.2.1 a.2.2.2.2.2.2) orielref12_filter_r f l K next
noncomputable def orielref12_named_a : List Arg → Option (ByteArray × ByteArray)
  | [.v (.agg [.c (.str x0_0), .c (.str x0_1)])] => some (x0_0, x0_1)
  | _ => none
noncomputable def orielref12_named_e (a : ByteArray × ByteArray) : List Arg := [.v (.agg [.c (C.str a.1), .c (C.str a.2)])]
theorem orielref12_named_ae {l : List Arg} {a : ByteArray × ByteArray} (h : orielref12_named_a l = some a) : l = orielref12_named_e a := by
  unfold orielref12_named_a at h
  split at h
  · cases h; rfl
  · cases h
noncomputable def orielref12_named_d : Res → Option Bool
  | ⟨.one (.d (.bool y0)), []⟩ => some y0
  | _ => none
noncomputable def orielref12_named_r (r : Bool) : Res := ⟨.one (.d (.bool r)), []⟩
theorem orielref12_named_dr {R : Res} {r : Bool} (h : orielref12_named_d R = some r) : R = orielref12_named_r r := by
  unfold orielref12_named_d at h
  split at h
  · cases h; rfl
  · cases h
noncomputable def orielref12_named_o (L : Lv) {Ω : Type} (f : FuncId) (l : List Arg) (K : Res → Option Ω) (next : Option Ω) : Option Ω := rowO 46 orielref12_named_a (fun a => L.orielref12_named a.1 a.2) orielref12_named_r f l K next
noncomputable def orielref04_Right_a : List Arg → Option ByteArray
  | [.v (.one (.c (.str x0)))] => some x0
  | _ => none
noncomputable def orielref04_Right_e (a : ByteArray) : List Arg := [.v (.one (.c (C.str a)))]
theorem orielref04_Right_ae {l : List Arg} {a : ByteArray} (h : orielref04_Right_a l = some a) : l = orielref04_Right_e a := by
  unfold orielref04_Right_a at h
  split at h
  · cases h; rfl
  · cases h
noncomputable def orielref04_Right_d : Res → Option Bool
  | ⟨.one (.d (.bool y0)), []⟩ => some y0
  | _ => none
noncomputable def orielref04_Right_r (r : Bool) : Res := ⟨.one (.d (.bool r)), []⟩
theorem orielref04_Right_dr {R : Res} {r : Bool} (h : orielref04_Right_d R = some r) : R = orielref04_Right_r r := by
  unfold orielref04_Right_d at h
  split at h
  · cases h; rfl
  · cases h
noncomputable def orielref04_Right_o (L : Lv) {Ω : Type} (f : FuncId) (l : List Arg) (K : Res → Option Ω) (next : Option Ω) : Option Ω := rowO 47 orielref04_Right_a (fun a => L.orielref04_Right a) orielref04_Right_r f l K next
noncomputable def orielref03_Plain_a : List Arg → Option ByteArray
  | [.v (.one (.c (.str x0)))] => some x0
  | _ => none
noncomputable def orielref03_Plain_e (a : ByteArray) : List Arg := [.v (.one (.c (C.str a)))]
theorem orielref03_Plain_ae {l : List Arg} {a : ByteArray} (h : orielref03_Plain_a l = some a) : l = orielref03_Plain_e a := by
  unfold orielref03_Plain_a at h
  split at h
  · cases h; rfl
  · cases h
noncomputable def orielref03_Plain_d : Res → Option Bool
  | ⟨.one (.d (.bool y0)), []⟩ => some y0
  | _ => none
noncomputable def orielref03_Plain_r (r : Bool) : Res := ⟨.one (.d (.bool r)), []⟩
theorem orielref03_Plain_dr {R : Res} {r : Bool} (h : orielref03_Plain_d R = some r) : R = orielref03_Plain_r r := by
  unfold orielref03_Plain_d at h
  split at h
  · cases h; rfl
  · cases h
noncomputable def orielref03_Plain_o (L : Lv) {Ω : Type} (f : FuncId) (l : List Arg) (K : Res → Option Ω) (next : Option Ω) : Option Ω := rowO 52 orielref03_Plain_a (fun a => L.orielref03_Plain a) orielref03_Plain_r f l K next
noncomputable def orielref01_All_a : List Arg → Option ByteArray
  | [.v (.one (.c (.str x0)))] => some x0
  | _ => none
noncomputable def orielref01_All_e (a : ByteArray) : List Arg := [.v (.one (.c (C.str a)))]
theorem orielref01_All_ae {l : List Arg} {a : ByteArray} (h : orielref01_All_a l = some a) : l = orielref01_All_e a := by
  unfold orielref01_All_a at h
  split at h
  · cases h; rfl
  · cases h
noncomputable def orielref01_All_d : Res → Option ((List (List C)) × Int × Int)
  | ⟨.tup [.one (.own 21 y0), .one (.d (.int .i64 y1)), .one (.d (.int .i64 y2))], []⟩ => some (y0, y1, y2)
  | _ => none
noncomputable def orielref01_All_r (r : (List (List C)) × Int × Int) : Res := ⟨.tup [.one (.own 21 r.1), .one (.d (.int .i64 r.2.1)), .one (.d (.int .i64 r.2.2))], []⟩
theorem orielref01_All_dr {R : Res} {r : (List (List C)) × Int × Int} (h : orielref01_All_d R = some r) : R = orielref01_All_r r := by
  unfold orielref01_All_d at h
  split at h
  · cases h; rfl
  · cases h
noncomputable def orielref01_All_o (L : Lv) {Ω : Type} (f : FuncId) (l : List Arg) (K : Res → Option Ω) (next : Option Ω) : Option Ω := rowO 54 orielref01_All_a (fun a => L.orielref01_All a) orielref01_All_r f l K next
noncomputable def orielref02_Start_a : List Arg → Option Int
  | [.v (.one (.c (.int .i64 x0)))] => some x0
  | _ => none
noncomputable def orielref02_Start_e (a : Int) : List Arg := [.v (.one (.c (C.int .i64 a)))]
theorem orielref02_Start_ae {l : List Arg} {a : Int} (h : orielref02_Start_a l = some a) : l = orielref02_Start_e a := by
  unfold orielref02_Start_a at h
  split at h
  · cases h; rfl
  · cases h
noncomputable def orielref02_Start_d : Res → Option Bool
  | ⟨.one (.d (.bool y0)), []⟩ => some y0
  | _ => none
noncomputable def orielref02_Start_r (r : Bool) : Res := ⟨.one (.d (.bool r)), []⟩
theorem orielref02_Start_dr {R : Res} {r : Bool} (h : orielref02_Start_d R = some r) : R = orielref02_Start_r r := by
  unfold orielref02_Start_d at h
  split at h
  · cases h; rfl
  · cases h
noncomputable def orielref02_Start_o (L : Lv) {Ω : Type} (f : FuncId) (l : List Arg) (K : Res → Option Ω) (next : Option Ω) : Option Ω := rowO 56 orielref02_Start_a (fun a => L.orielref02_Start a) orielref02_Start_r f l K next
noncomputable def orielref01_Rune_a : List Arg → Option (ByteArray × Int)
  | [.v (.one (.c (.str x0))), .v (.one (.c (.int .i64 x1)))] => some (x0, x1)
  | _ => none
noncomputable def orielref01_Rune_e (a : ByteArray × Int) : List Arg := [.v (.one (.c (C.str a.1))), .v (.one (.c (C.int .i64 a.2)))]
theorem orielref01_Rune_ae {l : List Arg} {a : ByteArray × Int} (h : orielref01_Rune_a l = some a) : l = orielref01_Rune_e a := by
  unfold orielref01_Rune_a at h
  split at h
  · cases h; rfl
  · cases h
noncomputable def orielref01_Rune_d : Res → Option (Int × Int × Int)
  | ⟨.tup [.one (.d (.int .i64 y0)), .one (.d (.int .i64 y1)), .one (.d (.int .i64 y2))], []⟩ => some (y0, y1, y2)
  | _ => none
noncomputable def orielref01_Rune_r (r : Int × Int × Int) : Res := ⟨.tup [.one (.d (.int .i64 r.1)), .one (.d (.int .i64 r.2.1)), .one (.d (.int .i64 r.2.2))], []⟩
theorem orielref01_Rune_dr {R : Res} {r : Int × Int × Int} (h : orielref01_Rune_d R = some r) : R = orielref01_Rune_r r := by
  unfold orielref01_Rune_d at h
  split at h
  · cases h; rfl
  · cases h
noncomputable def orielref01_Rune_o (L : Lv) {Ω : Type} (f : FuncId) (l : List Arg) (K : Res → Option Ω) (next : Option Ω) : Option Ω := rowO 58 orielref01_Rune_a (fun a => L.orielref01_Rune a.1 a.2) orielref01_Rune_r f l K next
noncomputable def orielref01_Put_a : List Arg → Option Int
  | [.v (.one (.c (.int .i64 x0)))] => some x0
  | _ => none
noncomputable def orielref01_Put_e (a : Int) : List Arg := [.v (.one (.c (C.int .i64 a)))]
theorem orielref01_Put_ae {l : List Arg} {a : Int} (h : orielref01_Put_a l = some a) : l = orielref01_Put_e a := by
  unfold orielref01_Put_a at h
  split at h
  · cases h; rfl
  · cases h
noncomputable def orielref01_Put_d : Res → Option (List (List C))
  | ⟨.one (.own 5 y0), []⟩ => some y0
  | _ => none
noncomputable def orielref01_Put_r (r : (List (List C))) : Res := ⟨.one (.own 5 r), []⟩
theorem orielref01_Put_dr {R : Res} {r : (List (List C))} (h : orielref01_Put_d R = some r) : R = orielref01_Put_r r := by
  unfold orielref01_Put_d at h
  split at h
  · cases h; rfl
  · cases h
noncomputable def orielref01_Put_o (L : Lv) {Ω : Type} (f : FuncId) (l : List Arg) (K : Res → Option Ω) (next : Option Ω) : Option Ω := rowO 61 orielref01_Put_a (fun a => L.orielref01_Put a) orielref01_Put_r f l K next
noncomputable def orielref01_cut_a : List Arg → Option (ByteArray × Int)
  | [.v (.one (.c (.str x0))), .v (.one (.c (.int .i64 x1)))] => some (x0, x1)
  | _ => none
noncomputable def orielref01_cut_e (a : ByteArray × Int) : List Arg := [.v (.one (.c (C.str a.1))), .v (.one (.c (C.int .i64 a.2)))]
theorem orielref01_cut_ae {l : List Arg} {a : ByteArray × Int} (h : orielref01_cut_a l = some a) : l = orielref01_cut_e a := by
  unfold orielref01_cut_a at h
  split at h
  · cases h; rfl
  · cases h
noncomputable def orielref01_cut_d : Res → Option Bool
  | ⟨.one (.d (.bool y0)), []⟩ => some y0
  | _ => none
noncomputable def orielref01_cut_r (r : Bool) : Res := ⟨.one (.d (.bool r)), []⟩
theorem orielref01_cut_dr {R : Res} {r : Bool} (h : orielref01_cut_d R = some r) : R = orielref01_cut_r r := by
  unfold orielref01_cut_d at h
  split at h
  · cases h; rfl
  · cases h
noncomputable def orielref01_cut_o (L : Lv) {Ω : Type} (f : FuncId) (l : List Arg) (K : Res → Option Ω) (next : Option Ω) : Option Ω := rowO 63 orielref01_cut_a (fun a => L.orielref01_cut a.1 a.2) orielref01_cut_r f l K next
noncomputable def orielref01_value_a : List Arg → Option (ByteArray × Int × Int)
  | [.v (.one (.c (.str x0))), .v (.one (.c (.int .i64 x1))), .v (.one (.c (.int .i64 x2)))] => some (x0, x1, x2)
  | _ => none
noncomputable def orielref01_value_e (a : ByteArray × Int × Int) : List Arg := [.v (.one (.c (C.str a.1))), .v (.one (.c (C.int .i64 a.2.1))), .v (.one (.c (C.int .i64 a.2.2)))]
theorem orielref01_value_ae {l : List Arg} {a : ByteArray × Int × Int} (h : orielref01_value_a l = some a) : l = orielref01_value_e a := by
  unfold orielref01_value_a at h
  split at h
  · cases h; rfl
  · cases h
noncomputable def orielref01_value_d : Res → Option Int
  | ⟨.one (.d (.int .i64 y0)), []⟩ => some y0
  | _ => none
noncomputable def orielref01_value_r (r : Int) : Res := ⟨.one (.d (.int .i64 r)), []⟩
theorem orielref01_value_dr {R : Res} {r : Int} (h : orielref01_value_d R = some r) : R = orielref01_value_r r := by
  unfold orielref01_value_d at h
  split at h
  · cases h; rfl
  · cases h
noncomputable def orielref01_value_o (L : Lv) {Ω : Type} (f : FuncId) (l : List Arg) (K : Res → Option Ω) (next : Option Ω) : Option Ω := rowO 60 orielref01_value_a (fun a => L.orielref01_value a.1 a.2.1 a.2.2) orielref01_value_r f l K next
noncomputable def orielref17_Compile_a : List Arg → Option (Int × (List (List C)) × (List (List C)))
  | [.v (.agg [.c (.int .i64 x0_0), .c (.row 25 x0_1), .c (.row 51 x0_2)])] => some (x0_0, x0_1, x0_2)
  | _ => none
noncomputable def orielref17_Compile_e (a : Int × (List (List C)) × (List (List C))) : List Arg := [.v (.agg [.c (C.int .i64 a.1), .c (C.row 25 a.2.1), .c (C.row 51 a.2.2)])]
theorem orielref17_Compile_ae {l : List Arg} {a : Int × (List (List C)) × (List (List C))} (h : orielref17_Compile_a l = some a) : l = orielref17_Compile_e a := by
  unfold orielref17_Compile_a at h
  split at h
  · cases h; rfl
  · cases h
noncomputable def orielref17_Compile_d : Res → Option (Int × Int × Int × (List (List C)) × (List (List C)))
  | ⟨.agg [.d (.int .i64 y0), .d (.int .i64 y1), .d (.int .i64 y2), .d (.row 56 y3), .d (.row 51 y4)], []⟩ => some (y0, y1, y2, y3, y4)
  | _ => none
noncomputable def orielref17_Compile_r (r : Int × Int × Int × (List (List C)) × (List (List C))) : Res := ⟨.agg [.d (.int .i64 r.1), .d (.int .i64 r.2.1), .d (.int .i64 r.2.2.1), .d (.row 56 r.2.2.2.1), .d (.row 51 r.2.2.2.2)], []⟩
theorem orielref17_Compile_dr {R : Res} {r : Int × Int × Int × (List (List C)) × (List (List C))} (h : orielref17_Compile_d R = some r) : R = orielref17_Compile_r r := by
  unfold orielref17_Compile_d at h
  split at h
  · cases h; rfl
  · cases h
noncomputable def orielref17_Compile_o (L : Lv) {Ω : Type} (f : FuncId) (l : List Arg) (K : Res → Option Ω) (next : Option Ω) : Option Ω := rowO 12 orielref17_Compile_a (fun a => L.orielref17_Compile a.1 a.2.1 a.2.2) orielref17_Compile_r f l K next
noncomputable def orielref02_Char_a : List Arg → Option Int
  | [.v (.one (.c (.int .i64 x0)))] => some x0
  | _ => none
noncomputable def orielref02_Char_e (a : Int) : List Arg := [.v (.one (.c (C.int .i64 a)))]
theorem orielref02_Char_ae {l : List Arg} {a : Int} (h : orielref02_Char_a l = some a) : l = orielref02_Char_e a := by
  unfold orielref02_Char_a at h
  split at h
  · cases h; rfl
  · cases h
noncomputable def orielref02_Char_d : Res → Option Bool
  | ⟨.one (.d (.bool y0)), []⟩ => some y0
  | _ => none
noncomputable def orielref02_Char_r (r : Bool) : Res := ⟨.one (.d (.bool r)), []⟩
theorem orielref02_Char_dr {R : Res} {r : Bool} (h : orielref02_Char_d R = some r) : R = orielref02_Char_r r := by
  unfold orielref02_Char_d at h
  split at h
  · cases h; rfl
  · cases h
noncomputable def orielref02_Char_o (L : Lv) {Ω : Type} (f : FuncId) (l : List Arg) (K : Res → Option Ω) (next : Option Ω) : Option Ω := rowO 55 orielref02_Char_a (fun a => L.orielref02_Char a) orielref02_Char_r f l K next
noncomputable def orielref02_Part_a : List Arg → Option Int
  | [.v (.one (.c (.int .i64 x0)))] => some x0
  | _ => none
noncomputable def orielref02_Part_e (a : Int) : List Arg := [.v (.one (.c (C.int .i64 a)))]
theorem orielref02_Part_ae {l : List Arg} {a : Int} (h : orielref02_Part_a l = some a) : l = orielref02_Part_e a := by
  unfold orielref02_Part_a at h
  split at h
  · cases h; rfl
  · cases h
noncomputable def orielref02_Part_d : Res → Option Bool
  | ⟨.one (.d (.bool y0)), []⟩ => some y0
  | _ => none
noncomputable def orielref02_Part_r (r : Bool) : Res := ⟨.one (.d (.bool r)), []⟩
theorem orielref02_Part_dr {R : Res} {r : Bool} (h : orielref02_Part_d R = some r) : R = orielref02_Part_r r := by
  unfold orielref02_Part_d at h
  split at h
  · cases h; rfl
  · cases h
noncomputable def orielref02_Part_o (L : Lv) {Ω : Type} (f : FuncId) (l : List Arg) (K : Res → Option Ω) (next : Option Ω) : Option Ω := rowO 57 orielref02_Part_a (fun a => L.orielref02_Part a) orielref02_Part_r f l K next
noncomputable def orielref01_begins_a : List Arg → Option (ByteArray × Int × (List (List C)))
  | [.v (.one (.c (.str x0))), .v (.one (.c (.int .i64 x1))), .v (.one (.c (.row 5 x2)))] => some (x0, x1, x2)
  | _ => none
noncomputable def orielref01_begins_e (a : ByteArray × Int × (List (List C))) : List Arg := [.v (.one (.c (C.str a.1))), .v (.one (.c (C.int .i64 a.2.1))), .v (.one (.c (C.row 5 a.2.2)))]
theorem orielref01_begins_ae {l : List Arg} {a : ByteArray × Int × (List (List C))} (h : orielref01_begins_a l = some a) : l = orielref01_begins_e a := by
  unfold orielref01_begins_a at h
  split at h
  · cases h; rfl
  · cases h
noncomputable def orielref01_begins_d : Res → Option Bool
  | ⟨.one (.d (.bool y0)), []⟩ => some y0
  | _ => none
noncomputable def orielref01_begins_r (r : Bool) : Res := ⟨.one (.d (.bool r)), []⟩
theorem orielref01_begins_dr {R : Res} {r : Bool} (h : orielref01_begins_d R = some r) : R = orielref01_begins_r r := by
  unfold orielref01_begins_d at h
  split at h
  · cases h; rfl
  · cases h
noncomputable def orielref01_begins_o (L : Lv) {Ω : Type} (f : FuncId) (l : List Arg) (K : Res → Option Ω) (next : Option Ω) : Option Ω := rowO 62 orielref01_begins_a (fun a => L.orielref01_begins a.1 a.2.1 a.2.2) orielref01_begins_r f l K next
noncomputable def orielref17_add_a : List Arg → Option (Int × Int × Int × (List (List C)) × (List (List C)) × Int × (List (List C)) × (List (List C)))
  | [.v (.agg [.c (.int .i64 x0_0), .c (.int .i64 x0_1), .c (.int .i64 x0_2), .c (.row 56 x0_3), .c (.row 51 x0_4)]), .v (.agg [.c (.int .i64 x1_0), .c (.row 25 x1_1), .c (.row 51 x1_2)])] => some (x0_0, x0_1, x0_2, x0_3, x0_4, x1_0, x1_1, x1_2)
  | _ => none
noncomputable def orielref17_add_e (a : Int × Int × Int × (List (List C)) × (List (List C)) × Int × (List (List C)) × (List (List C))) : List Arg := [.v (.agg [.c (C.int .i64 a.1), .c (C.int .i64 a.2.1), .c (C.int .i64 a.2.2.1), .c (C.row 56 a.2.2.2.1), .c (C.row 51 a.2.2.2.2.1)]), .v (.agg [.c (C.int .i64 a.2.2.2.2.2.1), .c (C.row 25 a.2.2.2.2.2.2.1), .c (C.row 51 a.2.2.2.2.2.2.2)])]
theorem orielref17_add_ae {l : List Arg} {a : Int × Int × Int × (List (List C)) × (List (List C)) × Int × (List (List C)) × (List (List C))} (h : orielref17_add_a l = some a) : l = orielref17_add_e a := by
  unfold orielref17_add_a at h
  split at h
  · cases h; rfl
  · cases h
noncomputable def orielref17_add_d : Res → Option (Int × Int × Int × (List (List C)) × (List (List C)) × Int × Int)
  | ⟨.agg [.d (.int .i64 y0), .d (.int .i64 y1), .d (.int .i64 y2), .d (.row 56 y3), .d (.row 51 y4), .d (.int .i64 y5), .d (.int .i64 y6)], []⟩ => some (y0, y1, y2, y3, y4, y5, y6)
  | _ => none
noncomputable def orielref17_add_r (r : Int × Int × Int × (List (List C)) × (List (List C)) × Int × Int) : Res := ⟨.agg [.d (.int .i64 r.1), .d (.int .i64 r.2.1), .d (.int .i64 r.2.2.1), .d (.row 56 r.2.2.2.1), .d (.row 51 r.2.2.2.2.1), .d (.int .i64 r.2.2.2.2.2.1), .d (.int .i64 r.2.2.2.2.2.2)], []⟩
theorem orielref17_add_dr {R : Res} {r : Int × Int × Int × (List (List C)) × (List (List C)) × Int × Int} (h : orielref17_add_d R = some r) : R = orielref17_add_r r := by
  unfold orielref17_add_d at h
  split at h
  · cases h; rfl
  · cases h
noncomputable def orielref17_add_o (L : Lv) {Ω : Type} (f : FuncId) (l : List Arg) (K : Res → Option Ω) (next : Option Ω) : Option Ω := rowO 29 orielref17_add_a (fun a => L.orielref17_add a.1 a.2.1 a.2.2.1 a.2.2.2.1 a.2.2.2.2.1 a.2.2.2.2.2.1 a.2.2.2.2.2.2.1 a.2.2.2.2.2.2.2) orielref17_add_r f l K next
noncomputable def orielref02_Blank_a : List Arg → Option Int
  | [.v (.one (.c (.int .i64 x0)))] => some x0
  | _ => none
noncomputable def orielref02_Blank_e (a : Int) : List Arg := [.v (.one (.c (C.int .i64 a)))]
theorem orielref02_Blank_ae {l : List Arg} {a : Int} (h : orielref02_Blank_a l = some a) : l = orielref02_Blank_e a := by
  unfold orielref02_Blank_a at h
  split at h
  · cases h; rfl
  · cases h
noncomputable def orielref02_Blank_d : Res → Option Bool
  | ⟨.one (.d (.bool y0)), []⟩ => some y0
  | _ => none
noncomputable def orielref02_Blank_r (r : Bool) : Res := ⟨.one (.d (.bool r)), []⟩
theorem orielref02_Blank_dr {R : Res} {r : Bool} (h : orielref02_Blank_d R = some r) : R = orielref02_Blank_r r := by
  unfold orielref02_Blank_d at h
  split at h
  · cases h; rfl
  · cases h
noncomputable def orielref02_Blank_o (L : Lv) {Ω : Type} (f : FuncId) (l : List Arg) (K : Res → Option Ω) (next : Option Ω) : Option Ω := rowO 59 orielref02_Blank_a (fun a => L.orielref02_Blank a) orielref02_Blank_r f l K next
noncomputable def orielref17_edge_a : List Arg → Option (Int × Int × Int × (List (List C)) × (List (List C)) × Int × Int × Int × Int)
  | [.v (.agg [.c (.int .i64 x0_0), .c (.int .i64 x0_1), .c (.int .i64 x0_2), .c (.row 56 x0_3), .c (.row 51 x0_4)]), .v (.one (.c (.int .i64 x1))), .v (.one (.c (.int .i64 x2))), .v (.one (.c (.int .i64 x3))), .v (.one (.c (.int .i64 x4)))] => some (x0_0, x0_1, x0_2, x0_3, x0_4, x1, x2, x3, x4)
  | _ => none
noncomputable def orielref17_edge_e (a : Int × Int × Int × (List (List C)) × (List (List C)) × Int × Int × Int × Int) : List Arg := [.v (.agg [.c (C.int .i64 a.1), .c (C.int .i64 a.2.1), .c (C.int .i64 a.2.2.1), .c (C.row 56 a.2.2.2.1), .c (C.row 51 a.2.2.2.2.1)]), .v (.one (.c (C.int .i64 a.2.2.2.2.2.1))), .v (.one (.c (C.int .i64 a.2.2.2.2.2.2.1))), .v (.one (.c (C.int .i64 a.2.2.2.2.2.2.2.1))), .v (.one (.c (C.int .i64 a.2.2.2.2.2.2.2.2)))]
theorem orielref17_edge_ae {l : List Arg} {a : Int × Int × Int × (List (List C)) × (List (List C)) × Int × Int × Int × Int} (h : orielref17_edge_a l = some a) : l = orielref17_edge_e a := by
  unfold orielref17_edge_a at h
  split at h
  · cases h; rfl
  · cases h
noncomputable def orielref17_edge_d : Res → Option (Int × Int × Int × (List (List C)) × (List (List C)))
  | ⟨.agg [.d (.int .i64 y0), .d (.int .i64 y1), .d (.int .i64 y2), .own 56 y3, .d (.row 51 y4)], []⟩ => some (y0, y1, y2, y3, y4)
  | _ => none
noncomputable def orielref17_edge_r (r : Int × Int × Int × (List (List C)) × (List (List C))) : Res := ⟨.agg [.d (.int .i64 r.1), .d (.int .i64 r.2.1), .d (.int .i64 r.2.2.1), .own 56 r.2.2.2.1, .d (.row 51 r.2.2.2.2)], []⟩
theorem orielref17_edge_dr {R : Res} {r : Int × Int × Int × (List (List C)) × (List (List C))} (h : orielref17_edge_d R = some r) : R = orielref17_edge_r r := by
  unfold orielref17_edge_d at h
  split at h
  · cases h; rfl
  · cases h
noncomputable def orielref17_edge_o (L : Lv) {Ω : Type} (f : FuncId) (l : List Arg) (K : Res → Option Ω) (next : Option Ω) : Option Ω := rowO 41 orielref17_edge_a (fun a => L.orielref17_edge a.1 a.2.1 a.2.2.1 a.2.2.2.1 a.2.2.2.2.1 a.2.2.2.2.2.1 a.2.2.2.2.2.2.1 a.2.2.2.2.2.2.2.1 a.2.2.2.2.2.2.2.2) orielref17_edge_r f l K next
noncomputable def orielref05_Find_a : List Arg → Option (ByteArray × Int × ByteArray)
  | [.v (.one (.c (.str x0))), .v (.one (.c (.int .i64 x1))), .v (.one (.c (.str x2)))] => some (x0, x1, x2)
  | _ => none
noncomputable def orielref05_Find_e (a : ByteArray × Int × ByteArray) : List Arg := [.v (.one (.c (C.str a.1))), .v (.one (.c (C.int .i64 a.2.1))), .v (.one (.c (C.str a.2.2)))]
theorem orielref05_Find_ae {l : List Arg} {a : ByteArray × Int × ByteArray} (h : orielref05_Find_a l = some a) : l = orielref05_Find_e a := by
  unfold orielref05_Find_a at h
  split at h
  · cases h; rfl
  · cases h
noncomputable def orielref05_Find_d : Res → Option Int
  | ⟨.one (.d (.int .i64 y0)), []⟩ => some y0
  | _ => none
noncomputable def orielref05_Find_r (r : Int) : Res := ⟨.one (.d (.int .i64 r)), []⟩
theorem orielref05_Find_dr {R : Res} {r : Int} (h : orielref05_Find_d R = some r) : R = orielref05_Find_r r := by
  unfold orielref05_Find_d at h
  split at h
  · cases h; rfl
  · cases h
noncomputable def orielref05_Find_o (L : Lv) {Ω : Type} (f : FuncId) (l : List Arg) (K : Res → Option Ω) (next : Option Ω) : Option Ω := rowO 53 orielref05_Find_a (fun a => L.orielref05_Find a.1 a.2.1 a.2.2) orielref05_Find_r f l K next
noncomputable def orielref17_Same_a : List Arg → Option (Int × Int × Int × (List (List C)) × (List (List C)) × Int × Int × Int × (List (List C)) × (List (List C)))
  | [.v (.agg [.c (.int .i64 x0_0), .c (.int .i64 x0_1), .c (.int .i64 x0_2), .c (.row 56 x0_3), .c (.row 51 x0_4)]), .v (.agg [.c (.int .i64 x1_0), .c (.int .i64 x1_1), .c (.int .i64 x1_2), .c (.row 56 x1_3), .c (.row 51 x1_4)])] => some (x0_0, x0_1, x0_2, x0_3, x0_4, x1_0, x1_1, x1_2, x1_3, x1_4)
  | _ => none
noncomputable def orielref17_Same_e (a : Int × Int × Int × (List (List C)) × (List (List C)) × Int × Int × Int × (List (List C)) × (List (List C))) : List Arg := [.v (.agg [.c (C.int .i64 a.1), .c (C.int .i64 a.2.1), .c (C.int .i64 a.2.2.1), .c (C.row 56 a.2.2.2.1), .c (C.row 51 a.2.2.2.2.1)]), .v (.agg [.c (C.int .i64 a.2.2.2.2.2.1), .c (C.int .i64 a.2.2.2.2.2.2.1), .c (C.int .i64 a.2.2.2.2.2.2.2.1), .c (C.row 56 a.2.2.2.2.2.2.2.2.1), .c (C.row 51 a.2.2.2.2.2.2.2.2.2)])]
theorem orielref17_Same_ae {l : List Arg} {a : Int × Int × Int × (List (List C)) × (List (List C)) × Int × Int × Int × (List (List C)) × (List (List C))} (h : orielref17_Same_a l = some a) : l = orielref17_Same_e a := by
  unfold orielref17_Same_a at h
  split at h
  · cases h; rfl
  · cases h
noncomputable def orielref17_Same_d : Res → Option Bool
  | ⟨.one (.d (.bool y0)), []⟩ => some y0
  | _ => none
noncomputable def orielref17_Same_r (r : Bool) : Res := ⟨.one (.d (.bool r)), []⟩
theorem orielref17_Same_dr {R : Res} {r : Bool} (h : orielref17_Same_d R = some r) : R = orielref17_Same_r r := by
  unfold orielref17_Same_d at h
  split at h
  · cases h; rfl
  · cases h
noncomputable def orielref17_Same_o (L : Lv) {Ω : Type} (f : FuncId) (l : List Arg) (K : Res → Option Ω) (next : Option Ω) : Option Ω := rowO 10 orielref17_Same_a (fun a => L.orielref17_Same a.1 a.2.1 a.2.2.1 a.2.2.2.1 a.2.2.2.2.1 a.2.2.2.2.2.1 a.2.2.2.2.2.2.1 a.2.2.2.2.2.2.2.1 a.2.2.2.2.2.2.2.2.1 a.2.2.2.2.2.2.2.2.2) orielref17_Same_r f l K next
noncomputable def oriellaw17_bits_a : List Arg → Option (Int × Int)
  | [.v (.one (.c (.int .i64 x0))), .v (.one (.c (.int .u64 x1)))] => some (x0, x1)
  | _ => none
noncomputable def oriellaw17_bits_e (a : Int × Int) : List Arg := [.v (.one (.c (C.int .i64 a.1))), .v (.one (.c (C.int .u64 a.2)))]
theorem oriellaw17_bits_ae {l : List Arg} {a : Int × Int} (h : oriellaw17_bits_a l = some a) : l = oriellaw17_bits_e a := by
  unfold oriellaw17_bits_a at h
  split at h
  · cases h; rfl
  · cases h
noncomputable def oriellaw17_bits_d : Res → Option (List (List C))
  | ⟨.one (.own 4 y0), []⟩ => some y0
  | _ => none
noncomputable def oriellaw17_bits_r (r : (List (List C))) : Res := ⟨.one (.own 4 r), []⟩
theorem oriellaw17_bits_dr {R : Res} {r : (List (List C))} (h : oriellaw17_bits_d R = some r) : R = oriellaw17_bits_r r := by
  unfold oriellaw17_bits_d at h
  split at h
  · cases h; rfl
  · cases h
noncomputable def oriellaw17_bits_o (L : Lv) {Ω : Type} (f : FuncId) (l : List Arg) (K : Res → Option Ω) (next : Option Ω) : Option Ω := rowO 13 oriellaw17_bits_a (fun a => L.oriellaw17_bits a.1 a.2) oriellaw17_bits_r f l K next
noncomputable def orielref12_SameFilter_a : List Arg → Option (Int × ByteArray × ByteArray × ByteArray × (List (List C)) × (List (List C)) × Int × ByteArray × ByteArray × ByteArray × (List (List C)) × (List (List C)))
  | [.v (.agg [.c (.int .i64 x0_0), .c (.str x0_1), .c (.str x0_2), .c (.str x0_3), .c (.row 51 x0_4), .c (.row 25 x0_5)]), .v (.agg [.c (.int .i64 x1_0), .c (.str x1_1), .c (.str x1_2), .c (.str x1_3), .c (.row 51 x1_4), .c (.row 25 x1_5)])] => some (x0_0, x0_1, x0_2, x0_3, x0_4, x0_5, x1_0, x1_1, x1_2, x1_3, x1_4, x1_5)
  | _ => none
noncomputable def orielref12_SameFilter_e (a : Int × ByteArray × ByteArray × ByteArray × (List (List C)) × (List (List C)) × Int × ByteArray × ByteArray × ByteArray × (List (List C)) × (List (List C))) : List Arg := [.v (.agg [.c (C.int .i64 a.1), .c (C.str a.2.1), .c (C.str a.2.2.1), .c (C.str a.2.2.2.1), .c (C.row 51 a.2.2.2.2.1), .c (C.row 25 a.2.2.2.2.2.1)]), .v (.agg [.c (C.int .i64 a.2.2.2.2.2.2.1), .c (C.str a.2.2.2.2.2.2.2.1), .c (C.str a.2.2.2.2.2.2.2.2.1), .c (C.str a.2.2.2.2.2.2.2.2.2.1), .c (C.row 51 a.2.2.2.2.2.2.2.2.2.2.1), .c (C.row 25 a.2.2.2.2.2.2.2.2.2.2.2)])]
theorem orielref12_SameFilter_ae {l : List Arg} {a : Int × ByteArray × ByteArray × ByteArray × (List (List C)) × (List (List C)) × Int × ByteArray × ByteArray × ByteArray × (List (List C)) × (List (List C))} (h : orielref12_SameFilter_a l = some a) : l = orielref12_SameFilter_e a := by
  unfold orielref12_SameFilter_a at h
  split at h
  · cases h; rfl
  · cases h
noncomputable def orielref12_SameFilter_d : Res → Option Bool
  | ⟨.one (.d (.bool y0)), []⟩ => some y0
  | _ => none
noncomputable def orielref12_SameFilter_r (r : Bool) : Res := ⟨.one (.d (.bool r)), []⟩
theorem orielref12_SameFilter_dr {R : Res} {r : Bool} (h : orielref12_SameFilter_d R = some r) : R = orielref12_SameFilter_r r := by
  unfold orielref12_SameFilter_d at h
  split at h
  · cases h; rfl
  · cases h
noncomputable def orielref12_SameFilter_o (L : Lv) {Ω : Type} (f : FuncId) (l : List Arg) (K : Res → Option Ω) (next : Option Ω) : Option Ω := rowO 27 orielref12_SameFilter_a (fun a => L.orielref12_SameFilter a.1 a.2.1 a.2.2.1 a.2.2.2.1 a.2.2.2.2.1 a.2.2.2.2.2.1 a.2.2.2.2.2.2.1 a.2.2.2.2.2.2.2.1 a.2.2.2.2.2.2.2.2.1 a.2.2.2.2.2.2.2.2.2.1 a.2.2.2.2.2.2.2.2.2.2.1 a.2.2.2.2.2.2.2.2.2.2.2) orielref12_SameFilter_r f l K next
noncomputable def orielref12_Same_a : List Arg → Option (Int × (List (List C)) × (List (List C)) × Int × (List (List C)) × (List (List C)))
  | [.v (.agg [.c (.int .i64 x0_0), .c (.row 25 x0_1), .c (.row 51 x0_2)]), .v (.agg [.c (.int .i64 x1_0), .c (.row 25 x1_1), .c (.row 51 x1_2)])] => some (x0_0, x0_1, x0_2, x1_0, x1_1, x1_2)
  | _ => none
noncomputable def orielref12_Same_e (a : Int × (List (List C)) × (List (List C)) × Int × (List (List C)) × (List (List C))) : List Arg := [.v (.agg [.c (C.int .i64 a.1), .c (C.row 25 a.2.1), .c (C.row 51 a.2.2.1)]), .v (.agg [.c (C.int .i64 a.2.2.2.1), .c (C.row 25 a.2.2.2.2.1), .c (C.row 51 a.2.2.2.2.2)])]
theorem orielref12_Same_ae {l : List Arg} {a : Int × (List (List C)) × (List (List C)) × Int × (List (List C)) × (List (List C))} (h : orielref12_Same_a l = some a) : l = orielref12_Same_e a := by
  unfold orielref12_Same_a at h
  split at h
  · cases h; rfl
  · cases h
noncomputable def orielref12_Same_d : Res → Option Bool
  | ⟨.one (.d (.bool y0)), []⟩ => some y0
  | _ => none
noncomputable def orielref12_Same_r (r : Bool) : Res := ⟨.one (.d (.bool r)), []⟩
theorem orielref12_Same_dr {R : Res} {r : Bool} (h : orielref12_Same_d R = some r) : R = orielref12_Same_r r := by
  unfold orielref12_Same_d at h
  split at h
  · cases h; rfl
  · cases h
noncomputable def orielref12_Same_o (L : Lv) {Ω : Type} (f : FuncId) (l : List Arg) (K : Res → Option Ω) (next : Option Ω) : Option Ω := rowO 35 orielref12_Same_a (fun a => L.orielref12_Same a.1 a.2.1 a.2.2.1 a.2.2.2.1 a.2.2.2.2.1 a.2.2.2.2.2) orielref12_Same_r f l K next
noncomputable def orielref17_Closure_a : List Arg → Option (Int × Int × Int × (List (List C)) × (List (List C)) × (List (List C)) × (List (List C)))
  | [.v (.agg [.c (.int .i64 x0_0), .c (.int .i64 x0_1), .c (.int .i64 x0_2), .c (.row 56 x0_3), .c (.row 51 x0_4)]), .v (.one (.c (.row 3 x1))), .v (.one (.c (.row 4 x2)))] => some (x0_0, x0_1, x0_2, x0_3, x0_4, x1, x2)
  | _ => none
noncomputable def orielref17_Closure_e (a : Int × Int × Int × (List (List C)) × (List (List C)) × (List (List C)) × (List (List C))) : List Arg := [.v (.agg [.c (C.int .i64 a.1), .c (C.int .i64 a.2.1), .c (C.int .i64 a.2.2.1), .c (C.row 56 a.2.2.2.1), .c (C.row 51 a.2.2.2.2.1)]), .v (.one (.c (C.row 3 a.2.2.2.2.2.1))), .v (.one (.c (C.row 4 a.2.2.2.2.2.2)))]
theorem orielref17_Closure_ae {l : List Arg} {a : Int × Int × Int × (List (List C)) × (List (List C)) × (List (List C)) × (List (List C))} (h : orielref17_Closure_a l = some a) : l = orielref17_Closure_e a := by
  unfold orielref17_Closure_a at h
  split at h
  · cases h; rfl
  · cases h
noncomputable def orielref17_Closure_d : Res → Option (List (List C))
  | ⟨.one (.own 4 y0), []⟩ => some y0
  | _ => none
noncomputable def orielref17_Closure_r (r : (List (List C))) : Res := ⟨.one (.own 4 r), []⟩
theorem orielref17_Closure_dr {R : Res} {r : (List (List C))} (h : orielref17_Closure_d R = some r) : R = orielref17_Closure_r r := by
  unfold orielref17_Closure_d at h
  split at h
  · cases h; rfl
  · cases h
noncomputable def orielref17_Closure_o (L : Lv) {Ω : Type} (f : FuncId) (l : List Arg) (K : Res → Option Ω) (next : Option Ω) : Option Ω := rowO 16 orielref17_Closure_a (fun a => L.orielref17_Closure a.1 a.2.1 a.2.2.1 a.2.2.2.1 a.2.2.2.2.1 a.2.2.2.2.2.1 a.2.2.2.2.2.2) orielref17_Closure_r f l K next
noncomputable def orielref17_Moves_a : List Arg → Option (Int × Int × Int × (List (List C)) × (List (List C)) × (List (List C)) × Int)
  | [.v (.agg [.c (.int .i64 x0_0), .c (.int .i64 x0_1), .c (.int .i64 x0_2), .c (.row 56 x0_3), .c (.row 51 x0_4)]), .v (.one (.c (.row 4 x1))), .v (.one (.c (.int .i64 x2)))] => some (x0_0, x0_1, x0_2, x0_3, x0_4, x1, x2)
  | _ => none
noncomputable def orielref17_Moves_e (a : Int × Int × Int × (List (List C)) × (List (List C)) × (List (List C)) × Int) : List Arg := [.v (.agg [.c (C.int .i64 a.1), .c (C.int .i64 a.2.1), .c (C.int .i64 a.2.2.1), .c (C.row 56 a.2.2.2.1), .c (C.row 51 a.2.2.2.2.1)]), .v (.one (.c (C.row 4 a.2.2.2.2.2.1))), .v (.one (.c (C.int .i64 a.2.2.2.2.2.2)))]
theorem orielref17_Moves_ae {l : List Arg} {a : Int × Int × Int × (List (List C)) × (List (List C)) × (List (List C)) × Int} (h : orielref17_Moves_a l = some a) : l = orielref17_Moves_e a := by
  unfold orielref17_Moves_a at h
  split at h
  · cases h; rfl
  · cases h
noncomputable def orielref17_Moves_d : Res → Option (List (List C))
  | ⟨.one (.own 4 y0), []⟩ => some y0
  | _ => none
noncomputable def orielref17_Moves_r (r : (List (List C))) : Res := ⟨.one (.own 4 r), []⟩
theorem orielref17_Moves_dr {R : Res} {r : (List (List C))} (h : orielref17_Moves_d R = some r) : R = orielref17_Moves_r r := by
  unfold orielref17_Moves_d at h
  split at h
  · cases h; rfl
  · cases h
noncomputable def orielref17_Moves_o (L : Lv) {Ω : Type} (f : FuncId) (l : List Arg) (K : Res → Option Ω) (next : Option Ω) : Option Ω := rowO 18 orielref17_Moves_a (fun a => L.orielref17_Moves a.1 a.2.1 a.2.2.1 a.2.2.2.1 a.2.2.2.2.1 a.2.2.2.2.2.1 a.2.2.2.2.2.2) orielref17_Moves_r f l K next
noncomputable def orK (L : Lv) {Ω : Type} (f : FuncId) (l : List Arg) (K : Res → Option Ω) : Option Ω := oriellaw17_ProgCompiles_o L f l K (oriellaw17_ProgMoves_o L f l K (oriellaw17_ProgKeeps_o L f l K (oriellaw17_ProgShapes_o L f l K (oriellaw17_awake_o L f l K (prog_Compile_o L f l K (prog_maker_path_o L f l K (prog_maker_step_o L f l K (prog_maker_seq_o L f l K (prog_maker_alt_o L f l K (prog_maker_state_o L f l K (prog_maker_lay_o L f l K (prog_maker_free_o L f l K (prog_Closure_o L f l K (orielref12_Right_o L f l K (orielref17_SameBits_o L f l K (orielref12_Size_o L f l K (orielref12_size_o L f l K (orielref12_sizeFilter_o L f l K (prog_Moves_o L f l K (orielref12_path_o L f l K (orielref12_filter_o L f l K (orielref12_named_o L f l K (orielref04_Right_o L f l K (orielref03_Plain_o L f l K (orielref01_All_o L f l K (orielref02_Start_o L f l K (orielref01_Rune_o L f l K (orielref01_Put_o L f l K (orielref01_cut_o L f l K (orielref01_value_o L f l K (orielref17_Compile_o L f l K (orielref02_Char_o L f l K (orielref02_Part_o L f l K (orielref01_begins_o L f l K (orielref17_add_o L f l K (orielref02_Blank_o L f l K (orielref17_edge_o L f l K (orielref05_Find_o L f l K (orielref17_Same_o L f l K (oriellaw17_bits_o L f l K (orielref12_SameFilter_o L f l K (orielref12_Same_o L f l K (orielref17_Closure_o L f l K (orielref17_Moves_o L f l K (none)))))))))))))))))))))))))))))))))))))))))))))
noncomputable def oriellaw17_ProgCompiles_b (L : Lv) (k : Nat) (x0_0 : Int) (x0_1 : List (List C)) (x0_2 : List (List C)) : Option Bool := bodyK Try.prog (orK L) kp k 3 [.v (.agg [.c (C.int .i64 x0_0), .c (C.row 25 x0_1), .c (C.row 51 x0_2)])] oriellaw17_ProgCompiles_d
noncomputable def oriellaw17_ProgMoves_b (L : Lv) (k : Nat) (x0_0 : Int) (x0_1 : List (List C)) (x0_2 : List (List C)) (x1 : Int) (x2 : Int) (x3 : Int) : Option Bool := bodyK Try.prog (orK L) kp k 4 [.v (.agg [.c (C.int .i64 x0_0), .c (C.row 25 x0_1), .c (C.row 51 x0_2)]), .v (.one (.c (C.int .u64 x1))), .v (.one (.c (C.int .u64 x2))), .v (.one (.c (C.int .i64 x3)))] oriellaw17_ProgMoves_d
noncomputable def oriellaw17_ProgMoves_l0 (L : Lv) (k : Nat) (x0_0 : Int) (x0_1 : List (List C)) (x0_2 : List (List C)) (x1 : Int) (x2 : Int) (x3 : Int) (m0 : Nat) (v1 : Int) (v2 : Int) (v3 : Int) (v4 : Int) (v5 : List (List C)) (v6 : List (List C)) (v7 : List (List C)) (v8 : List (List C)) : Option Bool := headK Try.prog (orK L) kp k 4 [.v (.agg [.c (C.int .i64 x0_0), .c (C.row 25 x0_1), .c (C.row 51 x0_2)]), .v (.one (.c (C.int .u64 x1))), .v (.one (.c (C.int .u64 x2))), .v (.one (.c (C.int .i64 x3)))] [1, 1, 1, 1, 1, 1, 0, 1, 0] [m0] ⟨[(3, .one (.c (C.int .i64 x3))), (9, .one (.ptr 256 0)), (10, .one (.arr 257)), (11, .one (.arr 258)), (12, .one (.c (C.nil 3))), (13, .one (.c (C.int .i64 v1)))], [(256, .box 31 [.c (C.int .i64 v2), .c (C.int .i64 v3), .c (C.int .i64 v4), .c (C.row 56 v5), .c (C.row 51 v6)]), (257, .arr 4 false v7), (258, .arr 4 false v8)], 260, 83⟩ oriellaw17_ProgMoves_d
noncomputable def oriellaw17_ProgMoves_l1 (L : Lv) (k : Nat) (x0_0 : Int) (x0_1 : List (List C)) (x0_2 : List (List C)) (x1 : Int) (x2 : Int) (x3 : Int) (m0 : Nat) (v1 : Int) (v2 : Int) (v3 : Int) (v4 : Int) (v5 : List (List C)) (v6 : List (List C)) (v7 : List (List C)) (v8 : List (List C)) (v9 : List (List C)) : Option Bool := headK Try.prog (orK L) kp k 4 [.v (.agg [.c (C.int .i64 x0_0), .c (C.row 25 x0_1), .c (C.row 51 x0_2)]), .v (.one (.c (C.int .u64 x1))), .v (.one (.c (C.int .u64 x2))), .v (.one (.c (C.int .i64 x3)))] [1, 1, 1, 1, 1, 1, 0, 1, 0] [m0] ⟨[(3, .one (.c (C.int .i64 x3))), (9, .one (.ptr 256 0)), (10, .one (.arr 257)), (11, .one (.arr 258)), (12, .one (.arr 259)), (13, .one (.c (C.int .i64 v1)))], [(256, .box 31 [.c (C.int .i64 v2), .c (C.int .i64 v3), .c (C.int .i64 v4), .c (C.row 56 v5), .c (C.row 51 v6)]), (257, .arr 4 false v7), (258, .arr 4 false v8), (259, .arr 3 false v9)], 261, 83⟩ oriellaw17_ProgMoves_d
noncomputable def oriellaw17_ProgKeeps_b (L : Lv) (k : Nat) (x0_0 : Int) (x0_1 : List (List C)) (x0_2 : List (List C)) (x1 : Int) : Option Bool := bodyK Try.prog (orK L) kp k 6 [.v (.agg [.c (C.int .i64 x0_0), .c (C.row 25 x0_1), .c (C.row 51 x0_2)]), .v (.one (.c (C.int .u8 x1)))] oriellaw17_ProgKeeps_d
noncomputable def oriellaw17_ProgKeeps_l0 (L : Lv) (k : Nat) (x0_0 : Int) (x0_1 : List (List C)) (x0_2 : List (List C)) (x1 : Int) (m0 : Nat) (v1 : Int) (v5 : Int) (v6 : Int) (v7 : Int) (v8 : Int) (v9 : Int) (v10 : Int) (v11 : List (List C)) (v12 : List (List C)) (v13 : List (List C)) (v14 : List (List C)) : Option Bool := headK Try.prog (orK L) kp k 6 [.v (.agg [.c (C.int .i64 x0_0), .c (C.row 25 x0_1), .c (C.row 51 x0_2)]), .v (.one (.c (C.int .u8 x1)))] [1, 1, 1, 1, 0, 1, 0] [m0] ⟨[(1, .one (.c (C.int .u8 x1))), (2, .one (.ptr 128 0)), (5, .one (.ptr 129 0)), (6, .one (.ptr 130 0)), (7, .one (.c (C.int .i64 v1)))], [(128, .box 25 [.c (C.int .i64 x0_0), .c (C.row 25 x0_1), .c (C.row 51 x0_2)]), (129, .box 31 [.c (C.int .i64 v5), .c (C.int .i64 v6), .c (C.int .i64 v7), .arr 131, .arr 132]), (130, .box 31 [.c (C.int .i64 v8), .c (C.int .i64 v9), .c (C.int .i64 v10), .arr 133, .arr 134]), (131, .arr 56 false v11), (132, .arr 51 false v12), (133, .arr 56 false v13), (134, .arr 51 false v14)], 136, 72⟩ oriellaw17_ProgKeeps_d
noncomputable def oriellaw17_ProgKeeps_l1 (L : Lv) (k : Nat) (x0_0 : Int) (x0_1 : List (List C)) (x0_2 : List (List C)) (x1 : Int) (m0 : Nat) (v0 : Int) (v1 : Int) (v5 : Int) (v6 : Int) (v7 : Int) (v8 : List (List C)) (v9 : List (List C)) (v10 : List (List C)) (v11 : List (List C)) : Option Bool := headK Try.prog (orK L) kp k 6 [.v (.agg [.c (C.int .i64 x0_0), .c (C.row 25 x0_1), .c (C.row 51 x0_2)]), .v (.one (.c (C.int .u8 x1)))] [1, 1, 1, 1, 1, 1, 1, 1, 0, 1, 0] [m0] ⟨[(2, .one (.ptr 128 0)), (6, .one (.ptr 129 0)), (8, .one (.arr 130)), (9, .one (.c (C.int .i64 v0))), (10, .one (.arr 131)), (11, .one (.c (C.int .i64 v1)))], [(128, .box 25 [.c (C.int .i64 x0_0), .c (C.row 25 x0_1), .c (C.row 51 x0_2)]), (129, .box 31 [.c (C.int .i64 v5), .c (C.int .i64 v6), .c (C.int .i64 v7), .arr 132, .arr 133]), (130, .arr 3 false v8), (131, .arr 4 false v9), (132, .arr 56 false v10), (133, .arr 51 false v11)], 135, 72⟩ oriellaw17_ProgKeeps_d
noncomputable def oriellaw17_ProgShapes_b (L : Lv) (k : Nat) (x0_0 : Int) (x0_1 : List (List C)) (x0_2 : List (List C)) : Option Bool := bodyK Try.prog (orK L) kp k 7 [.v (.agg [.c (C.int .i64 x0_0), .c (C.row 25 x0_1), .c (C.row 51 x0_2)])] oriellaw17_ProgShapes_d
noncomputable def oriellaw17_ProgShapes_l0 (L : Lv) (k : Nat) (x0_0 : Int) (x0_1 : List (List C)) (x0_2 : List (List C)) (m0 : Nat) (v0 : Int) (v1 : Int) (v2 : Int) (v3 : Int) (v4 : List (List C)) (v5 : List (List C)) (v6 : List (List C)) : Option Bool := headK Try.prog (orK L) kp k 7 [.v (.agg [.c (C.int .i64 x0_0), .c (C.row 25 x0_1), .c (C.row 51 x0_2)])] [1, 1, 1, 1, 0, 1, 0] [m0] ⟨[(3, .one (.ptr 64 0)), (4, .one (.arr 65)), (5, .one (.c (C.int .i64 v0)))], [(64, .box 31 [.c (C.int .i64 v1), .c (C.int .i64 v2), .c (C.int .i64 v3), .arr 66, .arr 67]), (65, .arr 3 false v4), (66, .arr 56 false v5), (67, .arr 51 false v6)], 69, 120⟩ oriellaw17_ProgShapes_d
noncomputable def oriellaw17_ProgShapes_l1 (L : Lv) (k : Nat) (x0_0 : Int) (x0_1 : List (List C)) (x0_2 : List (List C)) (m0 : Nat) (v0 : Int) (v1 : Int) (v2 : Int) (v3 : Int) (v4 : List (List C)) (v5 : List (List C)) (v6 : List (List C)) : Option Bool := headK Try.prog (orK L) kp k 7 [.v (.agg [.c (C.int .i64 x0_0), .c (C.row 25 x0_1), .c (C.row 51 x0_2)])] [1, 1, 1, 1, 1, 0, 1, 0] [m0] ⟨[(3, .one (.ptr 64 0)), (4, .one (.arr 65)), (7, .one (.c (C.int .i64 v0)))], [(64, .box 31 [.c (C.int .i64 v1), .c (C.int .i64 v2), .c (C.int .i64 v3), .arr 66, .arr 67]), (65, .arr 3 false v4), (66, .arr 56 false v5), (67, .arr 51 false v6)], 69, 120⟩ oriellaw17_ProgShapes_d
noncomputable def oriellaw17_awake_b (L : Lv) (k : Nat) : Option Bool := bodyK Try.prog (orK L) kp k 8 [] oriellaw17_awake_d
noncomputable def prog_Compile_b (L : Lv) (k : Nat) (x0_0 : Int) (x0_1 : List (List C)) (x0_2 : List (List C)) : Option (Int × Int × Int × (List (List C)) × (List (List C))) := bodyK Try.prog (orK L) kp k 11 [.v (.agg [.c (C.int .i64 x0_0), .c (C.row 25 x0_1), .c (C.row 51 x0_2)])] prog_Compile_d
noncomputable def prog_maker_path_b (L : Lv) (k : Nat) (x0_0 : Int) (x0_1 : Int) (x0_2 : Int) (x0_3 : List (List C)) (x0_4 : List (List C)) (x1_0 : Int) (x1_1 : List (List C)) (x1_2 : List (List C)) : Option (Int × Int × Int × Int × Int × (List (List C)) × (List (List C))) := bodyK Try.prog (orK L) kp k 28 [.ref 62 [.d (C.int .i64 x0_0), .d (C.int .i64 x0_1), .d (C.int .i64 x0_2), .own 56 x0_3, .own 51 x0_4] 0, .v (.agg [.c (C.int .i64 x1_0), .c (C.row 25 x1_1), .c (C.row 51 x1_2)])] prog_maker_path_d
noncomputable def prog_maker_step_b (L : Lv) (k : Nat) (x0_0 : Int) (x0_1 : Int) (x0_2 : Int) (x0_3 : List (List C)) (x0_4 : List (List C)) (x1 : Int) (x2 : Int) : Option (Int × Int × Int × Int × Int × (List (List C)) × (List (List C))) := bodyK Try.prog (orK L) kp k 36 [.ref 62 [.d (C.int .i64 x0_0), .d (C.int .i64 x0_1), .d (C.int .i64 x0_2), .own 56 x0_3, .own 51 x0_4] 0, .v (.one (.c (C.int .i64 x1))), .v (.one (.c (C.int .i64 x2)))] prog_maker_step_d
noncomputable def prog_maker_seq_b (L : Lv) (k : Nat) (x0_0 : Int) (x0_1 : Int) (x0_2 : Int) (x0_3 : List (List C)) (x0_4 : List (List C)) (x1 : List (List C)) : Option (Int × Int × Int × Int × Int × (List (List C)) × (List (List C))) := bodyK Try.prog (orK L) kp k 37 [.ref 62 [.d (C.int .i64 x0_0), .d (C.int .i64 x0_1), .d (C.int .i64 x0_2), .own 56 x0_3, .own 51 x0_4] 0, .v (.one (.c (C.row 25 x1)))] prog_maker_seq_d
noncomputable def prog_maker_seq_l0 (L : Lv) (k : Nat) (x0_0 : Int) (x0_1 : Int) (x0_2 : Int) (x0_3 : List (List C)) (x0_4 : List (List C)) (x1 : List (List C)) (m0 : Nat) (v0 : Int) (v1 : Int) (v4 : Int) (v5 : Int) (v6 : Int) (v7 : Int) (v8 : List (List C)) (v9 : List (List C)) : Option (Int × Int × Int × Int × Int × (List (List C)) × (List (List C))) := headK Try.prog (orK L) kp k 37 [.ref 62 [.d (C.int .i64 x0_0), .d (C.int .i64 x0_1), .d (C.int .i64 x0_2), .own 56 x0_3, .own 51 x0_4] 0, .v (.one (.c (C.row 25 x1)))] [1, 1, 0, 1, 0] [m0] ⟨[(0, .one (.ptr 0 0)), (6, .one (.c (C.int .i64 v0))), (7, .one (.c (C.int .i64 v1))), (21, .one (.c (C.row 25 ((x1.take ((x1.length : Int).toNat)).drop 1)))), (22, .one (.c (C.int .i64 (((x1.take ((x1.length : Int).toNat)).drop 1).length : Int)))), (23, .one (.c (C.int .i64 v4)))], [(0, .box 62 [.c (C.int .i64 v5), .c (C.int .i64 v6), .c (C.int .i64 v7), .arr 129, .arr 130]), (129, .arr 56 false v8), (130, .arr 51 false v9)], 132, 41⟩ prog_maker_seq_d
noncomputable def prog_maker_alt_b (L : Lv) (k : Nat) (x0_0 : Int) (x0_1 : Int) (x0_2 : Int) (x0_3 : List (List C)) (x0_4 : List (List C)) (x1 : List (List C)) : Option (Int × Int × Int × Int × Int × (List (List C)) × (List (List C))) := bodyK Try.prog (orK L) kp k 38 [.ref 62 [.d (C.int .i64 x0_0), .d (C.int .i64 x0_1), .d (C.int .i64 x0_2), .own 56 x0_3, .own 51 x0_4] 0, .v (.one (.c (C.row 25 x1)))] prog_maker_alt_d
noncomputable def prog_maker_alt_l0 (L : Lv) (k : Nat) (x0_0 : Int) (x0_1 : Int) (x0_2 : Int) (x0_3 : List (List C)) (x0_4 : List (List C)) (x1 : List (List C)) (m0 : Nat) (v0 : Int) (v4 : Int) (v5 : Int) (v6 : Int) (v7 : List (List C)) (v8 : List (List C)) : Option (Int × Int × Int × Int × Int × (List (List C)) × (List (List C))) := headK Try.prog (orK L) kp k 38 [.ref 62 [.d (C.int .i64 x0_0), .d (C.int .i64 x0_1), .d (C.int .i64 x0_2), .own 56 x0_3, .own 51 x0_4] 0, .v (.one (.c (C.row 25 x1)))] [1, 1, 1, 0, 1, 0] [m0] ⟨[(0, .one (.ptr 0 0)), (6, .one (.c (C.int .i64 v0))), (7, .one (.c (C.nil 3))), (17, .one (.c (C.row 25 x1))), (18, .one (.c (C.int .i64 (x1.length : Int)))), (19, .one (.c (C.int .i64 0)))], [(0, .box 62 [.c (C.int .i64 v4), .c (C.int .i64 v5), .c (C.int .i64 v6), .arr 129, .arr 130]), (129, .arr 56 false v7), (130, .arr 51 false v8)], 132, 53⟩ prog_maker_alt_d
noncomputable def prog_maker_alt_l1 (L : Lv) (k : Nat) (x0_0 : Int) (x0_1 : Int) (x0_2 : Int) (x0_3 : List (List C)) (x0_4 : List (List C)) (x1 : List (List C)) (m0 : Nat) (v0 : Int) (v1 : Int) (v4 : Int) (v5 : Int) (v6 : Int) (v7 : List (List C)) (v8 : List (List C)) : Option (Int × Int × Int × Int × Int × (List (List C)) × (List (List C))) := headK Try.prog (orK L) kp k 38 [.ref 62 [.d (C.int .i64 x0_0), .d (C.int .i64 x0_1), .d (C.int .i64 x0_2), .own 56 x0_3, .own 51 x0_4] 0, .v (.one (.c (C.row 25 x1)))] [1, 1, 1, 1, 1, 0, 1, 0] [m0] ⟨[(0, .one (.ptr 0 0)), (6, .one (.c (C.int .i64 v0))), (12, .one (.c (C.int .i64 v1))), (40, .one (.c (C.nil 3))), (41, .one (.c (C.int .i64 0))), (42, .one (.c (C.int .i64 0)))], [(0, .box 62 [.c (C.int .i64 v4), .c (C.int .i64 v5), .c (C.int .i64 v6), .arr 129, .arr 130]), (129, .arr 56 false v7), (130, .arr 51 false v8)], 132, 53⟩ prog_maker_alt_d
noncomputable def prog_maker_alt_l2 (L : Lv) (k : Nat) (x0_0 : Int) (x0_1 : Int) (x0_2 : Int) (x0_3 : List (List C)) (x0_4 : List (List C)) (x1 : List (List C)) (m0 : Nat) (v0 : Int) (v3 : Int) (v4 : Int) (v5 : Int) (v6 : Int) (v7 : List (List C)) (v8 : List (List C)) (v9 : List (List C)) : Option (Int × Int × Int × Int × Int × (List (List C)) × (List (List C))) := headK Try.prog (orK L) kp k 38 [.ref 62 [.d (C.int .i64 x0_0), .d (C.int .i64 x0_1), .d (C.int .i64 x0_2), .own 56 x0_3, .own 51 x0_4] 0, .v (.one (.c (C.row 25 x1)))] [1, 1, 1, 0, 1, 0] [m0] ⟨[(0, .one (.ptr 0 0)), (6, .one (.c (C.int .i64 v0))), (7, .one (.arr 129)), (17, .one (.c (C.row 25 x1))), (18, .one (.c (C.int .i64 (x1.length : Int)))), (19, .one (.c (C.int .i64 v3)))], [(0, .box 62 [.c (C.int .i64 v4), .c (C.int .i64 v5), .c (C.int .i64 v6), .arr 130, .arr 131]), (129, .arr 3 false v7), (130, .arr 56 false v8), (131, .arr 51 false v9)], 133, 53⟩ prog_maker_alt_d
noncomputable def prog_maker_alt_l3 (L : Lv) (k : Nat) (x0_0 : Int) (x0_1 : Int) (x0_2 : Int) (x0_3 : List (List C)) (x0_4 : List (List C)) (x1 : List (List C)) (m0 : Nat) (v0 : Int) (v1 : Int) (v2 : Int) (v3 : Int) (v4 : Int) (v5 : Int) (v6 : Int) (v7 : List (List C)) (v8 : List (List C)) (v9 : List (List C)) : Option (Int × Int × Int × Int × Int × (List (List C)) × (List (List C))) := headK Try.prog (orK L) kp k 38 [.ref 62 [.d (C.int .i64 x0_0), .d (C.int .i64 x0_1), .d (C.int .i64 x0_2), .own 56 x0_3, .own 51 x0_4] 0, .v (.one (.c (C.row 25 x1)))] [1, 1, 1, 1, 1, 0, 1, 0] [m0] ⟨[(0, .one (.ptr 0 0)), (6, .one (.c (C.int .i64 v0))), (12, .one (.c (C.int .i64 v1))), (40, .one (.arr 129)), (41, .one (.c (C.int .i64 v2))), (42, .one (.c (C.int .i64 v3)))], [(0, .box 62 [.c (C.int .i64 v4), .c (C.int .i64 v5), .c (C.int .i64 v6), .arr 130, .arr 131]), (129, .arr 3 false v7), (130, .arr 56 false v8), (131, .arr 51 false v9)], 133, 53⟩ prog_maker_alt_d
noncomputable def prog_maker_state_b (L : Lv) (k : Nat) (x0_0 : Int) (x0_1 : Int) (x0_2 : Int) (x0_3 : List (List C)) (x0_4 : List (List C)) : Option (Int × Int × Int × Int × (List (List C)) × (List (List C))) := bodyK Try.prog (orK L) kp k 39 [.ref 62 [.d (C.int .i64 x0_0), .d (C.int .i64 x0_1), .d (C.int .i64 x0_2), .own 56 x0_3, .own 51 x0_4] 0] prog_maker_state_d
noncomputable def prog_maker_lay_b (L : Lv) (k : Nat) (x0_0 : Int) (x0_1 : Int) (x0_2 : Int) (x0_3 : List (List C)) (x0_4 : List (List C)) (x1 : List (List C)) : Option (Int × Int × Int × (List (List C)) × (List (List C))) := bodyK Try.prog (orK L) kp k 48 [.ref 62 [.d (C.int .i64 x0_0), .d (C.int .i64 x0_1), .d (C.int .i64 x0_2), .own 56 x0_3, .own 51 x0_4] 0, .v (.one (.c (C.row 56 x1)))] prog_maker_lay_d
noncomputable def prog_maker_free_b (L : Lv) (k : Nat) (x0_0 : Int) (x0_1 : Int) (x0_2 : Int) (x0_3 : List (List C)) (x0_4 : List (List C)) (x1 : Int) (x2 : Int) : Option (Int × Int × Int × (List (List C)) × (List (List C))) := bodyK Try.prog (orK L) kp k 40 [.ref 62 [.d (C.int .i64 x0_0), .d (C.int .i64 x0_1), .d (C.int .i64 x0_2), .own 56 x0_3, .own 51 x0_4] 0, .v (.one (.c (C.int .i64 x1))), .v (.one (.c (C.int .i64 x2)))] prog_maker_free_d
noncomputable def prog_Closure_b (L : Lv) (k : Nat) (x0_0 : Int) (x0_1 : Int) (x0_2 : Int) (x0_3 : List (List C)) (x0_4 : List (List C)) (x1 : List (List C)) (x2 : List (List C)) : Option (List (List C)) := bodyK Try.prog (orK L) kp k 14 [.v (.agg [.c (C.int .i64 x0_0), .c (C.int .i64 x0_1), .c (C.int .i64 x0_2), .c (C.row 56 x0_3), .c (C.row 51 x0_4)]), .v (.one (.c (C.row 3 x1))), .v (.one (.c (C.row 4 x2)))] prog_Closure_d
noncomputable def prog_Closure_l0 (L : Lv) (k : Nat) (x0_0 : Int) (x0_1 : Int) (x0_2 : Int) (x0_3 : List (List C)) (x0_4 : List (List C)) (x1 : List (List C)) (x2 : List (List C)) (m0 : Nat) (v6 : List (List C)) (v7 : List (List C)) : Option (List (List C)) := headK Try.prog (orK L) kp k 14 [.v (.agg [.c (C.int .i64 x0_0), .c (C.int .i64 x0_1), .c (C.int .i64 x0_2), .c (C.row 56 x0_3), .c (C.row 51 x0_4)]), .v (.one (.c (C.row 3 x1))), .v (.one (.c (C.row 4 x2)))] [1, 1, 1, 0, 0] [m0] ⟨[(2, .one (.c (C.row 4 x2))), (3, .one (.ptr 192 0)), (7, .one (.arr 193)), (8, .one (.arr 194))], [(192, .box 31 [.c (C.int .i64 x0_0), .c (C.int .i64 x0_1), .c (C.int .i64 x0_2), .c (C.row 56 x0_3), .c (C.row 51 x0_4)]), (193, .arr 4 false v6), (194, .arr 3 false v7)], 196, 68⟩ prog_Closure_d
noncomputable def prog_Closure_l1 (L : Lv) (k : Nat) (x0_0 : Int) (x0_1 : Int) (x0_2 : Int) (x0_3 : List (List C)) (x0_4 : List (List C)) (x1 : List (List C)) (x2 : List (List C)) (m0 : Nat) (v1 : Nat) (v2 : Nat) (v8 : List (List C)) (v9 : List (List C)) : Option (List (List C)) := headK Try.prog (orK L) kp k 14 [.v (.agg [.c (C.int .i64 x0_0), .c (C.int .i64 x0_1), .c (C.int .i64 x0_2), .c (C.row 56 x0_3), .c (C.row 51 x0_4)]), .v (.one (.c (C.row 3 x1))), .v (.one (.c (C.row 4 x2)))] [1, 1, 1, 0, 0] [m0] ⟨[(2, .one (.c (C.row 4 x2))), (3, .one (.ptr 192 0)), (7, .one (.arr 193)), (8, .one (.sub 194 v1 v2))], [(192, .box 31 [.c (C.int .i64 x0_0), .c (C.int .i64 x0_1), .c (C.int .i64 x0_2), .c (C.row 56 x0_3), .c (C.row 51 x0_4)]), (193, .arr 4 false v8), (194, .arr 3 false v9)], 196, 68⟩ prog_Closure_d
noncomputable def prog_Closure_l2 (L : Lv) (k : Nat) (x0_0 : Int) (x0_1 : Int) (x0_2 : Int) (x0_3 : List (List C)) (x0_4 : List (List C)) (x1 : List (List C)) (x2 : List (List C)) (m0 : Nat) (m1 : Nat) (v1 : Nat) (v2 : Nat) (v3 : Int) (v6 : Int) (v12 : List (List C)) (v13 : List (List C)) : Option (List (List C)) := headK Try.prog (orK L) kp k 14 [.v (.agg [.c (C.int .i64 x0_0), .c (C.int .i64 x0_1), .c (C.int .i64 x0_2), .c (C.row 56 x0_3), .c (C.row 51 x0_4)]), .v (.one (.c (C.row 3 x1))), .v (.one (.c (C.row 4 x2)))] [1, 1, 1, 0, 0, 0, 1, 0, 1, 1, 1, 1, 1, 0] [m0, m1] ⟨[(2, .one (.c (C.row 4 x2))), (3, .one (.ptr 192 0)), (7, .one (.arr 193)), (8, .one (.sub 194 v1 v2)), (9, .one (.c (C.int .i64 v3))), (34, .one (.c (C.row 56 x0_3))), (35, .one (.c (C.int .i64 (x0_3.length : Int)))), (36, .one (.c (C.int .i64 v6)))], [(192, .box 31 [.c (C.int .i64 x0_0), .c (C.int .i64 x0_1), .c (C.int .i64 x0_2), .c (C.row 56 x0_3), .c (C.row 51 x0_4)]), (193, .arr 4 false v12), (194, .arr 3 false v13)], 196, 68⟩ prog_Closure_d
noncomputable def prog_Closure_l3 (L : Lv) (k : Nat) (x0_0 : Int) (x0_1 : Int) (x0_2 : Int) (x0_3 : List (List C)) (x0_4 : List (List C)) (x1 : List (List C)) (x2 : List (List C)) (m0 : Nat) (m1 : Nat) (v1 : Int) (v4 : Int) (v10 : List (List C)) (v11 : List (List C)) : Option (List (List C)) := headK Try.prog (orK L) kp k 14 [.v (.agg [.c (C.int .i64 x0_0), .c (C.int .i64 x0_1), .c (C.int .i64 x0_2), .c (C.row 56 x0_3), .c (C.row 51 x0_4)]), .v (.one (.c (C.row 3 x1))), .v (.one (.c (C.row 4 x2)))] [1, 1, 1, 0, 0, 0, 1, 0, 1, 1, 1, 1, 1, 0] [m0, m1] ⟨[(2, .one (.c (C.row 4 x2))), (3, .one (.ptr 192 0)), (7, .one (.arr 193)), (8, .one (.arr 194)), (9, .one (.c (C.int .i64 v1))), (34, .one (.c (C.row 56 x0_3))), (35, .one (.c (C.int .i64 (x0_3.length : Int)))), (36, .one (.c (C.int .i64 v4)))], [(192, .box 31 [.c (C.int .i64 x0_0), .c (C.int .i64 x0_1), .c (C.int .i64 x0_2), .c (C.row 56 x0_3), .c (C.row 51 x0_4)]), (193, .arr 4 false v10), (194, .arr 3 false v11)], 196, 68⟩ prog_Closure_d
noncomputable def orielref12_Right_b (L : Lv) (k : Nat) (x0_0 : Int) (x0_1 : List (List C)) (x0_2 : List (List C)) : Option Bool := bodyK Try.prog (orK L) kp k 9 [.v (.agg [.c (C.int .i64 x0_0), .c (C.row 25 x0_1), .c (C.row 51 x0_2)])] orielref12_Right_d
noncomputable def orielref17_SameBits_b (L : Lv) (k : Nat) (x0 : List (List C)) (x1 : List (List C)) : Option Bool := bodyK Try.prog (orK L) kp k 15 [.v (.one (.c (C.row 4 x0))), .v (.one (.c (C.row 4 x1)))] orielref17_SameBits_d
noncomputable def orielref17_SameBits_l0 (L : Lv) (k : Nat) (x0 : List (List C)) (x1 : List (List C)) (m0 : Nat) (v2 : Int) : Option Bool := headK Try.prog (orK L) kp k 15 [.v (.one (.c (C.row 4 x0))), .v (.one (.c (C.row 4 x1)))] [1, 1, 0, 1, 0] [m0] ⟨[(0, .one (.c (C.row 4 x0))), (1, .one (.c (C.row 4 x1))), (5, .one (.c (C.int .i64 v2)))], [], 129, 26⟩ orielref17_SameBits_d
noncomputable def orielref12_Size_b (L : Lv) (k : Nat) (x0_0 : Int) (x0_1 : List (List C)) (x0_2 : List (List C)) : Option Int := bodyK Try.prog (orK L) kp k 25 [.v (.agg [.c (C.int .i64 x0_0), .c (C.row 25 x0_1), .c (C.row 51 x0_2)])] orielref12_Size_d
noncomputable def orielref12_size_b (L : Lv) (k : Nat) (x0_0 : Int) (x0_1 : List (List C)) (x0_2 : List (List C)) (x1 : Int) : Option Int := bodyK Try.prog (orK L) kp k 33 [.v (.agg [.c (C.int .i64 x0_0), .c (C.row 25 x0_1), .c (C.row 51 x0_2)]), .v (.one (.c (C.int .i64 x1)))] orielref12_size_d
noncomputable def orielref12_size_l0 (L : Lv) (k : Nat) (x0_0 : Int) (x0_1 : List (List C)) (x0_2 : List (List C)) (x1 : Int) (m0 : Nat) (v1 : Int) (v2 : Int) : Option Int := headK Try.prog (orK L) kp k 33 [.v (.agg [.c (C.int .i64 x0_0), .c (C.row 25 x0_1), .c (C.row 51 x0_2)]), .v (.one (.c (C.int .i64 x1)))] [1, 1, 0, 1, 0] [m0] ⟨[(1, .one (.c (C.int .i64 x1))), (2, .one (.ptr 128 0)), (5, .one (.c (C.int .i64 v1))), (6, .one (.c (C.int .i64 v2)))], [(128, .box 25 [.c (C.int .i64 x0_0), .c (C.row 25 x0_1), .c (C.row 51 x0_2)])], 130, 55⟩ orielref12_size_d
noncomputable def orielref12_size_l1 (L : Lv) (k : Nat) (x0_0 : Int) (x0_1 : List (List C)) (x0_2 : List (List C)) (x1 : Int) (m0 : Nat) (v1 : Int) (v2 : Int) : Option Int := headK Try.prog (orK L) kp k 33 [.v (.agg [.c (C.int .i64 x0_0), .c (C.row 25 x0_1), .c (C.row 51 x0_2)]), .v (.one (.c (C.int .i64 x1)))] [1, 1, 1, 0, 1, 0] [m0] ⟨[(1, .one (.c (C.int .i64 x1))), (2, .one (.ptr 128 0)), (5, .one (.c (C.int .i64 v1))), (7, .one (.c (C.int .i64 v2)))], [(128, .box 25 [.c (C.int .i64 x0_0), .c (C.row 25 x0_1), .c (C.row 51 x0_2)])], 130, 55⟩ orielref12_size_d
noncomputable def orielref12_sizeFilter_b (L : Lv) (k : Nat) (x0_0 : Int) (x0_1 : ByteArray) (x0_2 : ByteArray) (x0_3 : ByteArray) (x0_4 : List (List C)) (x0_5 : List (List C)) (x1 : Int) : Option Int := bodyK Try.prog (orK L) kp k 45 [.v (.agg [.c (C.int .i64 x0_0), .c (C.str x0_1), .c (C.str x0_2), .c (C.str x0_3), .c (C.row 51 x0_4), .c (C.row 25 x0_5)]), .v (.one (.c (C.int .i64 x1)))] orielref12_sizeFilter_d
noncomputable def orielref12_sizeFilter_l0 (L : Lv) (k : Nat) (x0_0 : Int) (x0_1 : ByteArray) (x0_2 : ByteArray) (x0_3 : ByteArray) (x0_4 : List (List C)) (x0_5 : List (List C)) (x1 : Int) (m0 : Nat) (v1 : Int) (v2 : Int) : Option Int := headK Try.prog (orK L) kp k 45 [.v (.agg [.c (C.int .i64 x0_0), .c (C.str x0_1), .c (C.str x0_2), .c (C.str x0_3), .c (C.row 51 x0_4), .c (C.row 25 x0_5)]), .v (.one (.c (C.int .i64 x1)))] [1, 1, 0, 1, 0] [m0] ⟨[(1, .one (.c (C.int .i64 x1))), (2, .one (.ptr 128 0)), (5, .one (.c (C.int .i64 v1))), (6, .one (.c (C.int .i64 v2)))], [(128, .box 51 [.c (C.int .i64 x0_0), .c (C.str x0_1), .c (C.str x0_2), .c (C.str x0_3), .c (C.row 51 x0_4), .c (C.row 25 x0_5)])], 130, 55⟩ orielref12_sizeFilter_d
noncomputable def orielref12_sizeFilter_l1 (L : Lv) (k : Nat) (x0_0 : Int) (x0_1 : ByteArray) (x0_2 : ByteArray) (x0_3 : ByteArray) (x0_4 : List (List C)) (x0_5 : List (List C)) (x1 : Int) (m0 : Nat) (v1 : Int) (v2 : Int) : Option Int := headK Try.prog (orK L) kp k 45 [.v (.agg [.c (C.int .i64 x0_0), .c (C.str x0_1), .c (C.str x0_2), .c (C.str x0_3), .c (C.row 51 x0_4), .c (C.row 25 x0_5)]), .v (.one (.c (C.int .i64 x1)))] [1, 1, 1, 0, 1, 0] [m0] ⟨[(1, .one (.c (C.int .i64 x1))), (2, .one (.ptr 128 0)), (5, .one (.c (C.int .i64 v1))), (7, .one (.c (C.int .i64 v2)))], [(128, .box 51 [.c (C.int .i64 x0_0), .c (C.str x0_1), .c (C.str x0_2), .c (C.str x0_3), .c (C.row 51 x0_4), .c (C.row 25 x0_5)])], 130, 55⟩ orielref12_sizeFilter_d
noncomputable def prog_Moves_b (L : Lv) (k : Nat) (x0_0 : Int) (x0_1 : Int) (x0_2 : Int) (x0_3 : List (List C)) (x0_4 : List (List C)) (x1 : List (List C)) (x2 : Int) : Option (List (List C)) := bodyK Try.prog (orK L) kp k 17 [.v (.agg [.c (C.int .i64 x0_0), .c (C.int .i64 x0_1), .c (C.int .i64 x0_2), .c (C.row 56 x0_3), .c (C.row 51 x0_4)]), .v (.one (.c (C.row 4 x1))), .v (.one (.c (C.int .i64 x2)))] prog_Moves_d
noncomputable def prog_Moves_l0 (L : Lv) (k : Nat) (x0_0 : Int) (x0_1 : Int) (x0_2 : Int) (x0_3 : List (List C)) (x0_4 : List (List C)) (x1 : List (List C)) (x2 : Int) (m0 : Nat) (v4 : Int) (v5 : List (List C)) : Option (List (List C)) := headK Try.prog (orK L) kp k 17 [.v (.agg [.c (C.int .i64 x0_0), .c (C.int .i64 x0_1), .c (C.int .i64 x0_2), .c (C.row 56 x0_3), .c (C.row 51 x0_4)]), .v (.one (.c (C.row 4 x1))), .v (.one (.c (C.int .i64 x2)))] [1, 1, 0, 1, 0] [m0] ⟨[(1, .one (.c (C.row 4 x1))), (2, .one (.c (C.int .i64 x2))), (7, .one (.arr 192)), (14, .one (.c (C.row 56 x0_3))), (15, .one (.c (C.int .i64 (x0_3.length : Int)))), (16, .one (.c (C.int .i64 v4)))], [(192, .arr 4 false v5)], 194, 37⟩ prog_Moves_d
noncomputable def orielref12_path_b (L : Lv) (k : Nat) (x0_0 : Int) (x0_1 : List (List C)) (x0_2 : List (List C)) (x1 : Int) : Option Bool := bodyK Try.prog (orK L) kp k 26 [.v (.agg [.c (C.int .i64 x0_0), .c (C.row 25 x0_1), .c (C.row 51 x0_2)]), .v (.one (.c (C.int .i64 x1)))] orielref12_path_d
noncomputable def orielref12_path_l0 (L : Lv) (k : Nat) (x0_0 : Int) (x0_1 : List (List C)) (x0_2 : List (List C)) (x1 : Int) (v1 : Int) (v2 : Int) : Option Bool := headK Try.prog (orK L) kp k 26 [.v (.agg [.c (C.int .i64 x0_0), .c (C.row 25 x0_1), .c (C.row 51 x0_2)]), .v (.one (.c (C.int .i64 x1)))] [1, 1, 1, 1, 1, 1, 0, 0] [] ⟨[(1, .one (.c (C.int .i64 x1))), (2, .one (.ptr 128 0)), (5, .one (.c (C.int .i64 v1))), (6, .one (.c (C.int .i64 v2)))], [(128, .box 25 [.c (C.int .i64 x0_0), .c (C.row 25 x0_1), .c (C.row 51 x0_2)])], 130, 88⟩ orielref12_path_d
noncomputable def orielref12_path_l1 (L : Lv) (k : Nat) (x0_0 : Int) (x0_1 : List (List C)) (x0_2 : List (List C)) (x1 : Int) (m0 : Nat) (v1 : Int) : Option Bool := headK Try.prog (orK L) kp k 26 [.v (.agg [.c (C.int .i64 x0_0), .c (C.row 25 x0_1), .c (C.row 51 x0_2)]), .v (.one (.c (C.int .i64 x1)))] [1, 1, 1, 1, 1, 1, 1, 0, 1, 0] [m0] ⟨[(1, .one (.c (C.int .i64 x1))), (2, .one (.ptr 128 0)), (7, .one (.c (C.int .i64 v1)))], [(128, .box 25 [.c (C.int .i64 x0_0), .c (C.row 25 x0_1), .c (C.row 51 x0_2)])], 130, 88⟩ orielref12_path_d
noncomputable def orielref12_filter_b (L : Lv) (k : Nat) (x0_0 : Int) (x0_1 : ByteArray) (x0_2 : ByteArray) (x0_3 : ByteArray) (x0_4 : List (List C)) (x0_5 : List (List C)) (x1 : Int) : Option Bool := bodyK Try.prog (orK L) kp k 34 [.v (.agg [.c (C.int .i64 x0_0), .c (C.str x0_1), .c (C.str x0_2), .c (C.str x0_3), .c (C.row 51 x0_4), .c (C.row 25 x0_5)]), .v (.one (.c (C.int .i64 x1)))] orielref12_filter_d
noncomputable def orielref12_filter_l0 (L : Lv) (k : Nat) (x0_0 : Int) (x0_1 : ByteArray) (x0_2 : ByteArray) (x0_3 : ByteArray) (x0_4 : List (List C)) (x0_5 : List (List C)) (x1 : Int) (v1 : Bool) (v2 : Bool) : Option Bool := headK Try.prog (orK L) kp k 34 [.v (.agg [.c (C.int .i64 x0_0), .c (C.str x0_1), .c (C.str x0_2), .c (C.str x0_3), .c (C.row 51 x0_4), .c (C.row 25 x0_5)]), .v (.one (.c (C.int .i64 x1)))] [1, 1, 1, 1, 0, 0] [] ⟨[(1, .one (.c (C.int .i64 x1))), (2, .one (.ptr 128 0)), (5, .one (.c (C.bool v1))), (6, .one (.c (C.bool v2)))], [(128, .box 51 [.c (C.int .i64 x0_0), .c (C.str x0_1), .c (C.str x0_2), .c (C.str x0_3), .c (C.row 51 x0_4), .c (C.row 25 x0_5)])], 130, 144⟩ orielref12_filter_d
noncomputable def orielref12_filter_l1 (L : Lv) (k : Nat) (x0_0 : Int) (x0_1 : ByteArray) (x0_2 : ByteArray) (x0_3 : ByteArray) (x0_4 : List (List C)) (x0_5 : List (List C)) (x1 : Int) (v1 : Bool) : Option Bool := headK Try.prog (orK L) kp k 34 [.v (.agg [.c (C.int .i64 x0_0), .c (C.str x0_1), .c (C.str x0_2), .c (C.str x0_3), .c (C.row 51 x0_4), .c (C.row 25 x0_5)]), .v (.one (.c (C.int .i64 x1)))] [1, 1, 1, 1, 1, 0, 0] [] ⟨[(1, .one (.c (C.int .i64 x1))), (2, .one (.ptr 128 0)), (6, .one (.c (C.bool v1)))], [(128, .box 51 [.c (C.int .i64 x0_0), .c (C.str x0_1), .c (C.str x0_2), .c (C.str x0_3), .c (C.row 51 x0_4), .c (C.row 25 x0_5)])], 130, 144⟩ orielref12_filter_d
noncomputable def orielref12_filter_l2 (L : Lv) (k : Nat) (x0_0 : Int) (x0_1 : ByteArray) (x0_2 : ByteArray) (x0_3 : ByteArray) (x0_4 : List (List C)) (x0_5 : List (List C)) (x1 : Int) (v1 : Int) (v2 : Int) : Option Bool := headK Try.prog (orK L) kp k 34 [.v (.agg [.c (C.int .i64 x0_0), .c (C.str x0_1), .c (C.str x0_2), .c (C.str x0_3), .c (C.row 51 x0_4), .c (C.row 25 x0_5)]), .v (.one (.c (C.int .i64 x1)))] [1, 1, 1, 1, 1, 1, 1, 1, 1, 0, 0] [] ⟨[(1, .one (.c (C.int .i64 x1))), (2, .one (.ptr 128 0)), (7, .one (.c (C.int .i64 v1))), (8, .one (.c (C.int .i64 v2)))], [(128, .box 51 [.c (C.int .i64 x0_0), .c (C.str x0_1), .c (C.str x0_2), .c (C.str x0_3), .c (C.row 51 x0_4), .c (C.row 25 x0_5)])], 130, 144⟩ orielref12_filter_d
noncomputable def orielref12_filter_l3 (L : Lv) (k : Nat) (x0_0 : Int) (x0_1 : ByteArray) (x0_2 : ByteArray) (x0_3 : ByteArray) (x0_4 : List (List C)) (x0_5 : List (List C)) (x1 : Int) (v1 : Int) (v2 : Int) : Option Bool := headK Try.prog (orK L) kp k 34 [.v (.agg [.c (C.int .i64 x0_0), .c (C.str x0_1), .c (C.str x0_2), .c (C.str x0_3), .c (C.row 51 x0_4), .c (C.row 25 x0_5)]), .v (.one (.c (C.int .i64 x1)))] [1, 1, 1, 1, 1, 1, 1, 1, 1, 1, 0, 0] [] ⟨[(1, .one (.c (C.int .i64 x1))), (2, .one (.ptr 128 0)), (7, .one (.c (C.int .i64 v1))), (8, .one (.c (C.int .i64 v2)))], [(128, .box 51 [.c (C.int .i64 x0_0), .c (C.str x0_1), .c (C.str x0_2), .c (C.str x0_3), .c (C.row 51 x0_4), .c (C.row 25 x0_5)])], 130, 144⟩ orielref12_filter_d
noncomputable def orielref12_filter_l4 (L : Lv) (k : Nat) (x0_0 : Int) (x0_1 : ByteArray) (x0_2 : ByteArray) (x0_3 : ByteArray) (x0_4 : List (List C)) (x0_5 : List (List C)) (x1 : Int) (m0 : Nat) (v1 : Int) : Option Bool := headK Try.prog (orK L) kp k 34 [.v (.agg [.c (C.int .i64 x0_0), .c (C.str x0_1), .c (C.str x0_2), .c (C.str x0_3), .c (C.row 51 x0_4), .c (C.row 25 x0_5)]), .v (.one (.c (C.int .i64 x1)))] [1, 1, 1, 1, 1, 1, 1, 1, 1, 1, 1, 0, 1, 0] [m0] ⟨[(1, .one (.c (C.int .i64 x1))), (2, .one (.ptr 128 0)), (9, .one (.c (C.int .i64 v1)))], [(128, .box 51 [.c (C.int .i64 x0_0), .c (C.str x0_1), .c (C.str x0_2), .c (C.str x0_3), .c (C.row 51 x0_4), .c (C.row 25 x0_5)])], 130, 144⟩ orielref12_filter_d
noncomputable def orielref12_named_b (L : Lv) (k : Nat) (x0_0 : ByteArray) (x0_1 : ByteArray) : Option Bool := bodyK Try.prog (orK L) kp k 46 [.v (.agg [.c (C.str x0_0), .c (C.str x0_1)])] orielref12_named_d
noncomputable def orielref04_Right_b (L : Lv) (k : Nat) (x0 : ByteArray) : Option Bool := bodyK Try.prog (orK L) kp k 47 [.v (.one (.c (C.str x0)))] orielref04_Right_d
noncomputable def orielref04_Right_l0 (L : Lv) (k : Nat) (x0 : ByteArray) (m0 : Nat) (v0 : Int) (v1 : Int) (v2 : List (List C)) : Option Bool := headK Try.prog (orK L) kp k 47 [.v (.one (.c (C.str x0)))] [1, 1, 0, 1, 0] [m0] ⟨[(3, .one (.arr 64)), (5, .one (.c (C.int .i64 v0))), (6, .one (.c (C.int .i64 v1)))], [(64, .arr 21 false v2)], 66, 28⟩ orielref04_Right_d
noncomputable def orielref03_Plain_b (L : Lv) (k : Nat) (x0 : ByteArray) : Option Bool := bodyK Try.prog (orK L) kp k 52 [.v (.one (.c (C.str x0)))] orielref03_Plain_d
noncomputable def orielref03_Plain_l0 (L : Lv) (k : Nat) (x0 : ByteArray) (m0 : Nat) (v1 : Int) : Option Bool := headK Try.prog (orK L) kp k 52 [.v (.one (.c (C.str x0)))] [1, 1, 1, 0, 1, 0] [m0] ⟨[(3, .one (.c (C.row 21 (runesRow x0)))), (4, .one (.c (C.int .i64 v1)))], [], 65, 31⟩ orielref03_Plain_d
noncomputable def orielref01_All_b (L : Lv) (k : Nat) (x0 : ByteArray) : Option ((List (List C)) × Int × Int) := bodyK Try.prog (orK L) kp k 54 [.v (.one (.c (C.str x0)))] orielref01_All_d
noncomputable def orielref01_All_l0 (L : Lv) (k : Nat) (x0 : ByteArray) (m0 : Nat) : Option ((List (List C)) × Int × Int) := headK Try.prog (orK L) kp k 54 [.v (.one (.c (C.str x0)))] [1, 1, 1, 0, 0] [m0] ⟨[(0, .one (.c (C.str x0))), (5, .one (.c (C.nil 21))), (6, .one (.c (C.int .i64 0)))], [], 65, 36⟩ orielref01_All_d
noncomputable def orielref01_All_l1 (L : Lv) (k : Nat) (x0 : ByteArray) (m0 : Nat) (v1 : Int) (v2 : List (List C)) : Option ((List (List C)) × Int × Int) := headK Try.prog (orK L) kp k 54 [.v (.one (.c (C.str x0)))] [1, 1, 1, 0, 0] [m0] ⟨[(0, .one (.c (C.str x0))), (5, .one (.arr 64)), (6, .one (.c (C.int .i64 v1)))], [(64, .arr 21 false v2)], 66, 36⟩ orielref01_All_d
noncomputable def orielref02_Start_b (L : Lv) (k : Nat) (x0 : Int) : Option Bool := bodyK Try.prog (orK L) kp k 56 [.v (.one (.c (C.int .i64 x0)))] orielref02_Start_d
noncomputable def orielref01_Rune_b (L : Lv) (k : Nat) (x0 : ByteArray) (x1 : Int) : Option (Int × Int × Int) := bodyK Try.prog (orK L) kp k 58 [.v (.one (.c (C.str x0))), .v (.one (.c (C.int .i64 x1)))] orielref01_Rune_d
noncomputable def orielref01_Rune_l0 (L : Lv) (k : Nat) (x0 : ByteArray) (x1 : Int) (m0 : Nat) (v2 : Int) : Option (Int × Int × Int) := headK Try.prog (orK L) kp k 58 [.v (.one (.c (C.str x0))), .v (.one (.c (C.int .i64 x1)))] [1, 1, 0, 1, 0] [m0] ⟨[(0, .one (.c (C.str x0))), (1, .one (.c (C.int .i64 x1))), (7, .one (.c (C.int .i64 v2)))], [], 129, 57⟩ orielref01_Rune_d
noncomputable def orielref01_Put_b (L : Lv) (k : Nat) (x0 : Int) : Option (List (List C)) := bodyK Try.prog (orK L) kp k 61 [.v (.one (.c (C.int .i64 x0)))] orielref01_Put_d
noncomputable def orielref01_cut_b (L : Lv) (k : Nat) (x0 : ByteArray) (x1 : Int) : Option Bool := bodyK Try.prog (orK L) kp k 63 [.v (.one (.c (C.str x0))), .v (.one (.c (C.int .i64 x1)))] orielref01_cut_d
noncomputable def orielref01_cut_l0 (L : Lv) (k : Nat) (x0 : ByteArray) (x1 : Int) (m0 : Nat) (v3 : Int) : Option Bool := headK Try.prog (orK L) kp k 63 [.v (.one (.c (C.str x0))), .v (.one (.c (C.int .i64 x1)))] [1, 1, 1, 0, 1, 0] [m0] ⟨[(0, .one (.c (C.str x0))), (1, .one (.c (C.int .i64 x1))), (5, .one (.c (C.int .i64 (IntKind.i64.wrap ((x0.size : Int) - x1))))), (6, .one (.c (C.int .i64 v3)))], [], 129, 156⟩ orielref01_cut_d
noncomputable def orielref01_cut_l1 (L : Lv) (k : Nat) (x0 : ByteArray) (x1 : Int) (m0 : Nat) (m1 : Nat) (v3 : Int) (v5 : ByteArray) (v6 : ByteArray) : Option Bool := headK Try.prog (orK L) kp k 63 [.v (.one (.c (C.str x0))), .v (.one (.c (C.int .i64 x1)))] [1, 1, 1, 0, 1, 0, 0, 1, 0, 0, 1, 1, 1, 0, 0] [m0, m1] ⟨[(0, .one (.c (C.str x0))), (1, .one (.c (C.int .i64 x1))), (5, .one (.c (C.int .i64 (IntKind.i64.wrap ((x0.size : Int) - x1))))), (6, .one (.c (C.int .i64 v3))), (7, .one (.c (C.str (x0.extract x1.toNat ((x0.size : Int).toNat))))), (8, .one (.c (C.str v5))), (9, .one (.c (C.str v6)))], [], 129, 156⟩ orielref01_cut_d
noncomputable def orielref01_cut_l2 (L : Lv) (k : Nat) (x0 : ByteArray) (x1 : Int) (m0 : Nat) (m1 : Nat) (v3 : Int) (v5 : Int) (v6 : Int) (v7 : Bool) (v8 : Int) : Option Bool := headK Try.prog (orK L) kp k 63 [.v (.one (.c (C.str x0))), .v (.one (.c (C.int .i64 x1)))] [1, 1, 1, 0, 1, 0, 0, 1, 0, 0, 1, 1, 1, 1, 1, 1, 1, 0, 1, 0] [m0, m1] ⟨[(0, .one (.c (C.str x0))), (1, .one (.c (C.int .i64 x1))), (5, .one (.c (C.int .i64 (IntKind.i64.wrap ((x0.size : Int) - x1))))), (6, .one (.c (C.int .i64 v3))), (7, .one (.c (C.str (x0.extract x1.toNat ((x0.size : Int).toNat))))), (10, .one (.c (C.int .i64 v5))), (11, .one (.c (C.int .i64 v6))), (12, .one (.c (C.bool v7))), (13, .one (.c (C.int .i64 v8)))], [], 129, 156⟩ orielref01_cut_d
noncomputable def orielref01_cut_l3 (L : Lv) (k : Nat) (x0 : ByteArray) (x1 : Int) (m0 : Nat) (v3 : Int) (v5 : Int) (v6 : Int) (v7 : Bool) (v8 : Bool) : Option Bool := headK Try.prog (orK L) kp k 63 [.v (.one (.c (C.str x0))), .v (.one (.c (C.int .i64 x1)))] [1, 1, 1, 0, 1, 0, 0, 1, 0, 0, 1, 1, 1, 1, 1, 1, 1, 1, 1, 0, 0] [m0] ⟨[(0, .one (.c (C.str x0))), (1, .one (.c (C.int .i64 x1))), (5, .one (.c (C.int .i64 (IntKind.i64.wrap ((x0.size : Int) - x1))))), (6, .one (.c (C.int .i64 v3))), (7, .one (.c (C.str (x0.extract x1.toNat ((x0.size : Int).toNat))))), (10, .one (.c (C.int .i64 v5))), (11, .one (.c (C.int .i64 v6))), (12, .one (.c (C.bool v7))), (14, .one (.c (C.bool v8)))], [], 129, 156⟩ orielref01_cut_d
noncomputable def orielref01_cut_l4 (L : Lv) (k : Nat) (x0 : ByteArray) (x1 : Int) (m0 : Nat) (m1 : Nat) (v3 : Int) (v5 : Int) (v6 : Int) (v7 : Int) : Option Bool := headK Try.prog (orK L) kp k 63 [.v (.one (.c (C.str x0))), .v (.one (.c (C.int .i64 x1)))] [1, 1, 1, 0, 1, 0, 0, 1, 0, 0, 1, 1, 1, 1, 1, 1, 1, 1, 1, 1, 1, 0] [m0, m1] ⟨[(0, .one (.c (C.str x0))), (1, .one (.c (C.int .i64 x1))), (5, .one (.c (C.int .i64 (IntKind.i64.wrap ((x0.size : Int) - x1))))), (6, .one (.c (C.int .i64 v3))), (7, .one (.c (C.str (x0.extract x1.toNat ((x0.size : Int).toNat))))), (10, .one (.c (C.int .i64 v5))), (11, .one (.c (C.int .i64 v6))), (15, .one (.c (C.int .i64 v7)))], [], 129, 156⟩ orielref01_cut_d
noncomputable def orielref01_value_b (L : Lv) (k : Nat) (x0 : ByteArray) (x1 : Int) (x2 : Int) : Option Int := bodyK Try.prog (orK L) kp k 60 [.v (.one (.c (C.str x0))), .v (.one (.c (C.int .i64 x1))), .v (.one (.c (C.int .i64 x2)))] orielref01_value_d
noncomputable def orielref01_value_l0 (L : Lv) (k : Nat) (x0 : ByteArray) (x1 : Int) (x2 : Int) (m0 : Nat) (v3 : Int) (v4 : Int) : Option Int := headK Try.prog (orK L) kp k 60 [.v (.one (.c (C.str x0))), .v (.one (.c (C.int .i64 x1))), .v (.one (.c (C.int .i64 x2)))] [1, 1, 0, 1, 0] [m0] ⟨[(0, .one (.c (C.str x0))), (1, .one (.c (C.int .i64 x1))), (2, .one (.c (C.int .i64 x2))), (7, .one (.c (C.int .i64 v3))), (8, .one (.c (C.int .i64 v4)))], [], 193, 54⟩ orielref01_value_d
noncomputable def orielref01_value_l1 (L : Lv) (k : Nat) (x0 : ByteArray) (x1 : Int) (x2 : Int) (m0 : Nat) (v3 : Int) (v4 : Int) (v5 : Int) : Option Int := headK Try.prog (orK L) kp k 60 [.v (.one (.c (C.str x0))), .v (.one (.c (C.int .i64 x1))), .v (.one (.c (C.int .i64 x2)))] [1, 1, 0, 1, 0, 0, 1, 0, 0, 1, 1, 1, 0, 0] [m0] ⟨[(0, .one (.c (C.str x0))), (1, .one (.c (C.int .i64 x1))), (2, .one (.c (C.int .i64 x2))), (7, .one (.c (C.int .i64 v3))), (8, .one (.c (C.int .i64 v4))), (9, .one (.c (C.int .i64 v5)))], [], 193, 54⟩ orielref01_value_d
noncomputable def orielref17_Compile_b (L : Lv) (k : Nat) (x0_0 : Int) (x0_1 : List (List C)) (x0_2 : List (List C)) : Option (Int × Int × Int × (List (List C)) × (List (List C))) := bodyK Try.prog (orK L) kp k 12 [.v (.agg [.c (C.int .i64 x0_0), .c (C.row 25 x0_1), .c (C.row 51 x0_2)])] orielref17_Compile_d
noncomputable def orielref02_Char_b (L : Lv) (k : Nat) (x0 : Int) : Option Bool := bodyK Try.prog (orK L) kp k 55 [.v (.one (.c (C.int .i64 x0)))] orielref02_Char_d
noncomputable def orielref02_Part_b (L : Lv) (k : Nat) (x0 : Int) : Option Bool := bodyK Try.prog (orK L) kp k 57 [.v (.one (.c (C.int .i64 x0)))] orielref02_Part_d
noncomputable def orielref01_begins_b (L : Lv) (k : Nat) (x0 : ByteArray) (x1 : Int) (x2 : List (List C)) : Option Bool := bodyK Try.prog (orK L) kp k 62 [.v (.one (.c (C.str x0))), .v (.one (.c (C.int .i64 x1))), .v (.one (.c (C.row 5 x2)))] orielref01_begins_d
noncomputable def orielref01_begins_l0 (L : Lv) (k : Nat) (x0 : ByteArray) (x1 : Int) (x2 : List (List C)) (m0 : Nat) (v3 : Int) : Option Bool := headK Try.prog (orK L) kp k 62 [.v (.one (.c (C.str x0))), .v (.one (.c (C.int .i64 x1))), .v (.one (.c (C.row 5 x2)))] [1, 1, 0, 1, 0] [m0] ⟨[(0, .one (.c (C.str x0))), (1, .one (.c (C.int .i64 x1))), (2, .one (.c (C.row 5 x2))), (7, .one (.c (C.int .i64 v3)))], [], 193, 36⟩ orielref01_begins_d
noncomputable def orielref17_add_b (L : Lv) (k : Nat) (x0_0 : Int) (x0_1 : Int) (x0_2 : Int) (x0_3 : List (List C)) (x0_4 : List (List C)) (x1_0 : Int) (x1_1 : List (List C)) (x1_2 : List (List C)) : Option (Int × Int × Int × (List (List C)) × (List (List C)) × Int × Int) := bodyK Try.prog (orK L) kp k 29 [.v (.agg [.c (C.int .i64 x0_0), .c (C.int .i64 x0_1), .c (C.int .i64 x0_2), .c (C.row 56 x0_3), .c (C.row 51 x0_4)]), .v (.agg [.c (C.int .i64 x1_0), .c (C.row 25 x1_1), .c (C.row 51 x1_2)])] orielref17_add_d
noncomputable def orielref17_add_l0 (L : Lv) (k : Nat) (x0_0 : Int) (x0_1 : Int) (x0_2 : Int) (x0_3 : List (List C)) (x0_4 : List (List C)) (x1_0 : Int) (x1_1 : List (List C)) (x1_2 : List (List C)) (m0 : Nat) : Option (Int × Int × Int × (List (List C)) × (List (List C)) × Int × Int) := headK Try.prog (orK L) kp k 29 [.v (.agg [.c (C.int .i64 x0_0), .c (C.int .i64 x0_1), .c (C.int .i64 x0_2), .c (C.row 56 x0_3), .c (C.row 51 x0_4)]), .v (.agg [.c (C.int .i64 x1_0), .c (C.row 25 x1_1), .c (C.row 51 x1_2)])] [1, 1, 1, 0, 1, 0, 1, 1, 0, 1, 0] [m0] ⟨[(2, .one (.ptr 128 0)), (3, .one (.ptr 129 0)), (4, .one (.ptr 130 0)), (5, .one (.c (C.int .i64 x0_0))), (10, .one (.c (C.nil 3))), (11, .one (.c (C.int .i64 0)))], [(128, .box 31 [.c (C.int .i64 (IntKind.i64.wrap (x0_0 + 1))), .c (C.int .i64 x0_1), .c (C.int .i64 x0_2), .c (C.row 56 x0_3), .c (C.row 51 x0_4)]), (129, .box 25 [.c (C.int .i64 x1_0), .c (C.row 25 x1_1), .c (C.row 51 x1_2)]), (130, .box 66 [.c (C.int .i64 0), .c (C.int .i64 0), .c (C.int .i64 0), .c (C.nil 56), .c (C.nil 51), .c (C.int .i64 0), .c (C.int .i64 0)])], 132, 175⟩ orielref17_add_d
noncomputable def orielref17_add_l1 (L : Lv) (k : Nat) (x0_0 : Int) (x0_1 : Int) (x0_2 : Int) (x0_3 : List (List C)) (x0_4 : List (List C)) (x1_0 : Int) (x1_1 : List (List C)) (x1_2 : List (List C)) (v1 : Int) : Option (Int × Int × Int × (List (List C)) × (List (List C)) × Int × Int) := headK Try.prog (orK L) kp k 29 [.v (.agg [.c (C.int .i64 x0_0), .c (C.int .i64 x0_1), .c (C.int .i64 x0_2), .c (C.row 56 x0_3), .c (C.row 51 x0_4)]), .v (.agg [.c (C.int .i64 x1_0), .c (C.row 25 x1_1), .c (C.row 51 x1_2)])] [1, 1, 1, 1, 1, 1, 1, 1, 1, 1, 0, 0] [] ⟨[(2, .one (.ptr 128 0)), (3, .one (.ptr 129 0)), (4, .one (.ptr 130 0)), (5, .one (.c (C.int .i64 x0_0))), (16, .one (.c (C.int .i64 v1))), (17, .one (.c (C.int .i64 0)))], [(128, .box 31 [.c (C.int .i64 (IntKind.i64.wrap (x0_0 + 2))), .c (C.int .i64 x0_1), .c (C.int .i64 x0_2), .c (C.row 56 x0_3), .c (C.row 51 x0_4)]), (129, .box 25 [.c (C.int .i64 x1_0), .c (C.row 25 x1_1), .c (C.row 51 x1_2)]), (130, .box 66 [.c (C.int .i64 0), .c (C.int .i64 0), .c (C.int .i64 0), .c (C.nil 56), .c (C.nil 51), .c (C.int .i64 0), .c (C.int .i64 0)])], 132, 175⟩ orielref17_add_d
noncomputable def orielref17_add_l2 (L : Lv) (k : Nat) (x0_0 : Int) (x0_1 : Int) (x0_2 : Int) (x0_3 : List (List C)) (x0_4 : List (List C)) (x1_0 : Int) (x1_1 : List (List C)) (x1_2 : List (List C)) (m0 : Nat) : Option (Int × Int × Int × (List (List C)) × (List (List C)) × Int × Int) := headK Try.prog (orK L) kp k 29 [.v (.agg [.c (C.int .i64 x0_0), .c (C.int .i64 x0_1), .c (C.int .i64 x0_2), .c (C.row 56 x0_3), .c (C.row 51 x0_4)]), .v (.agg [.c (C.int .i64 x1_0), .c (C.row 25 x1_1), .c (C.row 51 x1_2)])] [1, 1, 1, 0, 1, 0, 1, 1, 1, 1, 1, 0, 1, 0] [m0] ⟨[(2, .one (.ptr 128 0)), (4, .one (.ptr 129 0)), (5, .one (.c (C.int .i64 x0_0))), (10, .one (.c (C.nil 3))), (13, .one (.c (C.int .i64 (IntKind.i64.wrap (x0_0 + 1))))), (14, .one (.c (C.int .i64 0)))], [(128, .box 31 [.c (C.int .i64 (IntKind.i64.wrap (IntKind.i64.wrap (x0_0 + 1) + 1))), .c (C.int .i64 x0_1), .c (C.int .i64 x0_2), .c (C.row 56 x0_3), .c (C.row 51 x0_4)]), (129, .box 66 [.c (C.int .i64 0), .c (C.int .i64 0), .c (C.int .i64 0), .c (C.nil 56), .c (C.nil 51), .c (C.int .i64 0), .c (C.int .i64 0)])], 131, 175⟩ orielref17_add_d
noncomputable def orielref17_add_l3 (L : Lv) (k : Nat) (x0_0 : Int) (x0_1 : Int) (x0_2 : Int) (x0_3 : List (List C)) (x0_4 : List (List C)) (x1_0 : Int) (x1_1 : List (List C)) (x1_2 : List (List C)) (m0 : Nat) (v0 : Int) (v10 : Int) (v11 : Int) (v12 : Int) (v13 : List (List C)) (v14 : List (List C)) (v15 : Int) (v16 : Int) : Option (Int × Int × Int × (List (List C)) × (List (List C)) × Int × Int) := headK Try.prog (orK L) kp k 29 [.v (.agg [.c (C.int .i64 x0_0), .c (C.int .i64 x0_1), .c (C.int .i64 x0_2), .c (C.row 56 x0_3), .c (C.row 51 x0_4)]), .v (.agg [.c (C.int .i64 x1_0), .c (C.row 25 x1_1), .c (C.row 51 x1_2)])] [1, 1, 0, 1, 0, 1, 1, 0, 1, 0] [m0] ⟨[(3, .one (.ptr 128 0)), (4, .one (.ptr 129 0)), (6, .one (.ptr 130 0)), (7, .one (.c (C.int .i64 v0))), (8, .one (.c (C.int .i64 1)))], [(128, .box 25 [.c (C.int .i64 x1_0), .c (C.row 25 x1_1), .c (C.row 51 x1_2)]), (129, .box 66 [.c (C.int .i64 0), .c (C.int .i64 0), .c (C.int .i64 0), .c (C.nil 56), .c (C.nil 51), .c (C.int .i64 0), .c (C.int .i64 0)]), (130, .box 66 [.c (C.int .i64 v10), .c (C.int .i64 v11), .c (C.int .i64 v12), .c (C.row 56 v13), .c (C.row 51 v14), .c (C.int .i64 v15), .c (C.int .i64 v16)])], 132, 175⟩ orielref17_add_d
noncomputable def orielref17_add_l4 (L : Lv) (k : Nat) (x0_0 : Int) (x0_1 : Int) (x0_2 : Int) (x0_3 : List (List C)) (x0_4 : List (List C)) (x1_0 : Int) (x1_1 : List (List C)) (x1_2 : List (List C)) (m0 : Nat) (v1 : Int) (v2 : Int) (v3 : Int) (v4 : Int) (v5 : List (List C)) (v14 : List (List C)) (v15 : List (List C)) : Option (Int × Int × Int × (List (List C)) × (List (List C)) × Int × Int) := headK Try.prog (orK L) kp k 29 [.v (.agg [.c (C.int .i64 x0_0), .c (C.int .i64 x0_1), .c (C.int .i64 x0_2), .c (C.row 56 x0_3), .c (C.row 51 x0_4)]), .v (.agg [.c (C.int .i64 x1_0), .c (C.row 25 x1_1), .c (C.row 51 x1_2)])] [1, 1, 1, 0, 1, 0, 1, 1, 0, 1, 0] [m0] ⟨[(2, .one (.ptr 128 0)), (3, .one (.ptr 129 0)), (4, .one (.ptr 130 0)), (5, .one (.c (C.int .i64 x0_0))), (10, .one (.arr 131)), (11, .one (.c (C.int .i64 v1)))], [(128, .box 31 [.c (C.int .i64 v2), .c (C.int .i64 v3), .c (C.int .i64 v4), .arr 132, .c (C.row 51 v5)]), (129, .box 25 [.c (C.int .i64 x1_0), .c (C.row 25 x1_1), .c (C.row 51 x1_2)]), (130, .box 66 [.c (C.int .i64 0), .c (C.int .i64 0), .c (C.int .i64 0), .c (C.nil 56), .c (C.nil 51), .c (C.int .i64 0), .c (C.int .i64 0)]), (131, .arr 3 false v14), (132, .arr 56 false v15)], 134, 175⟩ orielref17_add_d
noncomputable def orielref17_add_l5 (L : Lv) (k : Nat) (x0_0 : Int) (x0_1 : Int) (x0_2 : Int) (x0_3 : List (List C)) (x0_4 : List (List C)) (x1_0 : Int) (x1_1 : List (List C)) (x1_2 : List (List C)) (m0 : Nat) (v0 : Int) (v1 : Int) (v10 : Int) (v11 : Int) (v12 : Int) (v13 : List (List C)) (v14 : Int) (v15 : Int) (v16 : List (List C)) : Option (Int × Int × Int × (List (List C)) × (List (List C)) × Int × Int) := headK Try.prog (orK L) kp k 29 [.v (.agg [.c (C.int .i64 x0_0), .c (C.int .i64 x0_1), .c (C.int .i64 x0_2), .c (C.row 56 x0_3), .c (C.row 51 x0_4)]), .v (.agg [.c (C.int .i64 x1_0), .c (C.row 25 x1_1), .c (C.row 51 x1_2)])] [1, 1, 0, 1, 0, 1, 1, 0, 1, 0] [m0] ⟨[(3, .one (.ptr 128 0)), (4, .one (.ptr 129 0)), (6, .one (.ptr 130 0)), (7, .one (.c (C.int .i64 v0))), (8, .one (.c (C.int .i64 v1)))], [(128, .box 25 [.c (C.int .i64 x1_0), .c (C.row 25 x1_1), .c (C.row 51 x1_2)]), (129, .box 66 [.c (C.int .i64 0), .c (C.int .i64 0), .c (C.int .i64 0), .c (C.nil 56), .c (C.nil 51), .c (C.int .i64 0), .c (C.int .i64 0)]), (130, .box 66 [.c (C.int .i64 v10), .c (C.int .i64 v11), .c (C.int .i64 v12), .arr 131, .c (C.row 51 v13), .c (C.int .i64 v14), .c (C.int .i64 v15)]), (131, .arr 56 false v16)], 133, 175⟩ orielref17_add_d
noncomputable def orielref17_add_l6 (L : Lv) (k : Nat) (x0_0 : Int) (x0_1 : Int) (x0_2 : Int) (x0_3 : List (List C)) (x0_4 : List (List C)) (x1_0 : Int) (x1_1 : List (List C)) (x1_2 : List (List C)) (m0 : Nat) (v1 : Int) (v2 : Int) (v3 : Int) (v4 : Int) (v5 : Int) (v6 : List (List C)) (v12 : List (List C)) (v13 : List (List C)) : Option (Int × Int × Int × (List (List C)) × (List (List C)) × Int × Int) := headK Try.prog (orK L) kp k 29 [.v (.agg [.c (C.int .i64 x0_0), .c (C.int .i64 x0_1), .c (C.int .i64 x0_2), .c (C.row 56 x0_3), .c (C.row 51 x0_4)]), .v (.agg [.c (C.int .i64 x1_0), .c (C.row 25 x1_1), .c (C.row 51 x1_2)])] [1, 1, 1, 0, 1, 0, 1, 1, 1, 1, 1, 0, 1, 0] [m0] ⟨[(2, .one (.ptr 128 0)), (4, .one (.ptr 129 0)), (5, .one (.c (C.int .i64 x0_0))), (10, .one (.arr 130)), (13, .one (.c (C.int .i64 v1))), (14, .one (.c (C.int .i64 v2)))], [(128, .box 31 [.c (C.int .i64 v3), .c (C.int .i64 v4), .c (C.int .i64 v5), .arr 131, .c (C.row 51 v6)]), (129, .box 66 [.c (C.int .i64 0), .c (C.int .i64 0), .c (C.int .i64 0), .c (C.nil 56), .c (C.nil 51), .c (C.int .i64 0), .c (C.int .i64 0)]), (130, .arr 3 false v12), (131, .arr 56 false v13)], 133, 175⟩ orielref17_add_d
noncomputable def orielref02_Blank_b (L : Lv) (k : Nat) (x0 : Int) : Option Bool := bodyK Try.prog (orK L) kp k 59 [.v (.one (.c (C.int .i64 x0)))] orielref02_Blank_d
noncomputable def orielref17_edge_b (L : Lv) (k : Nat) (x0_0 : Int) (x0_1 : Int) (x0_2 : Int) (x0_3 : List (List C)) (x0_4 : List (List C)) (x1 : Int) (x2 : Int) (x3 : Int) (x4 : Int) : Option (Int × Int × Int × (List (List C)) × (List (List C))) := bodyK Try.prog (orK L) kp k 41 [.v (.agg [.c (C.int .i64 x0_0), .c (C.int .i64 x0_1), .c (C.int .i64 x0_2), .c (C.row 56 x0_3), .c (C.row 51 x0_4)]), .v (.one (.c (C.int .i64 x1))), .v (.one (.c (C.int .i64 x2))), .v (.one (.c (C.int .i64 x3))), .v (.one (.c (C.int .i64 x4)))] orielref17_edge_d
noncomputable def orielref05_Find_b (L : Lv) (k : Nat) (x0 : ByteArray) (x1 : Int) (x2 : ByteArray) : Option Int := bodyK Try.prog (orK L) kp k 53 [.v (.one (.c (C.str x0))), .v (.one (.c (C.int .i64 x1))), .v (.one (.c (C.str x2)))] orielref05_Find_d
noncomputable def orielref05_Find_l0 (L : Lv) (k : Nat) (x0 : ByteArray) (x1 : Int) (x2 : ByteArray) (m0 : Nat) (v2 : Int) : Option Int := headK Try.prog (orK L) kp k 53 [.v (.one (.c (C.str x0))), .v (.one (.c (C.int .i64 x1))), .v (.one (.c (C.str x2)))] [1, 0, 1, 0] [m0] ⟨[(0, .one (.c (C.str x0))), (2, .one (.c (C.str x2))), (7, .one (.c (C.int .i64 v2)))], [], 193, 28⟩ orielref05_Find_d
noncomputable def orielref17_Same_b (L : Lv) (k : Nat) (x0_0 : Int) (x0_1 : Int) (x0_2 : Int) (x0_3 : List (List C)) (x0_4 : List (List C)) (x1_0 : Int) (x1_1 : Int) (x1_2 : Int) (x1_3 : List (List C)) (x1_4 : List (List C)) : Option Bool := bodyK Try.prog (orK L) kp k 10 [.v (.agg [.c (C.int .i64 x0_0), .c (C.int .i64 x0_1), .c (C.int .i64 x0_2), .c (C.row 56 x0_3), .c (C.row 51 x0_4)]), .v (.agg [.c (C.int .i64 x1_0), .c (C.int .i64 x1_1), .c (C.int .i64 x1_2), .c (C.row 56 x1_3), .c (C.row 51 x1_4)])] orielref17_Same_d
noncomputable def orielref17_Same_l0 (L : Lv) (k : Nat) (x0_0 : Int) (x0_1 : Int) (x0_2 : Int) (x0_3 : List (List C)) (x0_4 : List (List C)) (x1_0 : Int) (x1_1 : Int) (x1_2 : Int) (x1_3 : List (List C)) (x1_4 : List (List C)) (m0 : Nat) (v0 : Int) : Option Bool := headK Try.prog (orK L) kp k 10 [.v (.agg [.c (C.int .i64 x0_0), .c (C.int .i64 x0_1), .c (C.int .i64 x0_2), .c (C.row 56 x0_3), .c (C.row 51 x0_4)]), .v (.agg [.c (C.int .i64 x1_0), .c (C.int .i64 x1_1), .c (C.int .i64 x1_2), .c (C.row 56 x1_3), .c (C.row 51 x1_4)])] [1, 1, 0, 1, 0] [m0] ⟨[(2, .one (.ptr 128 0)), (3, .one (.ptr 129 0)), (5, .one (.c (C.int .i64 v0)))], [(128, .box 31 [.c (C.int .i64 x0_0), .c (C.int .i64 x0_1), .c (C.int .i64 x0_2), .c (C.row 56 x0_3), .c (C.row 51 x0_4)]), (129, .box 31 [.c (C.int .i64 x1_0), .c (C.int .i64 x1_1), .c (C.int .i64 x1_2), .c (C.row 56 x1_3), .c (C.row 51 x1_4)])], 131, 81⟩ orielref17_Same_d
noncomputable def orielref17_Same_l1 (L : Lv) (k : Nat) (x0_0 : Int) (x0_1 : Int) (x0_2 : Int) (x0_3 : List (List C)) (x0_4 : List (List C)) (x1_0 : Int) (x1_1 : Int) (x1_2 : Int) (x1_3 : List (List C)) (x1_4 : List (List C)) (m0 : Nat) (v0 : Int) : Option Bool := headK Try.prog (orK L) kp k 10 [.v (.agg [.c (C.int .i64 x0_0), .c (C.int .i64 x0_1), .c (C.int .i64 x0_2), .c (C.row 56 x0_3), .c (C.row 51 x0_4)]), .v (.agg [.c (C.int .i64 x1_0), .c (C.int .i64 x1_1), .c (C.int .i64 x1_2), .c (C.row 56 x1_3), .c (C.row 51 x1_4)])] [1, 1, 1, 0, 1, 0] [m0] ⟨[(2, .one (.ptr 128 0)), (3, .one (.ptr 129 0)), (6, .one (.c (C.int .i64 v0)))], [(128, .box 31 [.c (C.int .i64 x0_0), .c (C.int .i64 x0_1), .c (C.int .i64 x0_2), .c (C.row 56 x0_3), .c (C.row 51 x0_4)]), (129, .box 31 [.c (C.int .i64 x1_0), .c (C.int .i64 x1_1), .c (C.int .i64 x1_2), .c (C.row 56 x1_3), .c (C.row 51 x1_4)])], 131, 81⟩ orielref17_Same_d
noncomputable def oriellaw17_bits_b (L : Lv) (k : Nat) (x0 : Int) (x1 : Int) : Option (List (List C)) := bodyK Try.prog (orK L) kp k 13 [.v (.one (.c (C.int .i64 x0))), .v (.one (.c (C.int .u64 x1)))] oriellaw17_bits_d
noncomputable def oriellaw17_bits_l0 (L : Lv) (k : Nat) (x0 : Int) (x1 : Int) (m0 : Nat) : Option (List (List C)) := headK Try.prog (orK L) kp k 13 [.v (.one (.c (C.int .i64 x0))), .v (.one (.c (C.int .u64 x1)))] [1, 1, 0, 1, 0] [m0] ⟨[(0, .one (.c (C.int .i64 x0))), (1, .one (.c (C.int .u64 x1))), (5, .one (.c (C.nil 4))), (6, .one (.c (C.int .i64 0)))], [], 129, 23⟩ oriellaw17_bits_d
noncomputable def oriellaw17_bits_l1 (L : Lv) (k : Nat) (x0 : Int) (x1 : Int) (m0 : Nat) (v2 : Int) (v3 : List (List C)) : Option (List (List C)) := headK Try.prog (orK L) kp k 13 [.v (.one (.c (C.int .i64 x0))), .v (.one (.c (C.int .u64 x1)))] [1, 1, 0, 1, 0] [m0] ⟨[(0, .one (.c (C.int .i64 x0))), (1, .one (.c (C.int .u64 x1))), (5, .one (.arr 128)), (6, .one (.c (C.int .i64 v2)))], [(128, .arr 4 false v3)], 130, 23⟩ oriellaw17_bits_d
noncomputable def orielref12_SameFilter_b (L : Lv) (k : Nat) (x0_0 : Int) (x0_1 : ByteArray) (x0_2 : ByteArray) (x0_3 : ByteArray) (x0_4 : List (List C)) (x0_5 : List (List C)) (x1_0 : Int) (x1_1 : ByteArray) (x1_2 : ByteArray) (x1_3 : ByteArray) (x1_4 : List (List C)) (x1_5 : List (List C)) : Option Bool := bodyK Try.prog (orK L) kp k 27 [.v (.agg [.c (C.int .i64 x0_0), .c (C.str x0_1), .c (C.str x0_2), .c (C.str x0_3), .c (C.row 51 x0_4), .c (C.row 25 x0_5)]), .v (.agg [.c (C.int .i64 x1_0), .c (C.str x1_1), .c (C.str x1_2), .c (C.str x1_3), .c (C.row 51 x1_4), .c (C.row 25 x1_5)])] orielref12_SameFilter_d
noncomputable def orielref12_SameFilter_l0 (L : Lv) (k : Nat) (x0_0 : Int) (x0_1 : ByteArray) (x0_2 : ByteArray) (x0_3 : ByteArray) (x0_4 : List (List C)) (x0_5 : List (List C)) (x1_0 : Int) (x1_1 : ByteArray) (x1_2 : ByteArray) (x1_3 : ByteArray) (x1_4 : List (List C)) (x1_5 : List (List C)) (m0 : Nat) (v0 : Int) : Option Bool := headK Try.prog (orK L) kp k 27 [.v (.agg [.c (C.int .i64 x0_0), .c (C.str x0_1), .c (C.str x0_2), .c (C.str x0_3), .c (C.row 51 x0_4), .c (C.row 25 x0_5)]), .v (.agg [.c (C.int .i64 x1_0), .c (C.str x1_1), .c (C.str x1_2), .c (C.str x1_3), .c (C.row 51 x1_4), .c (C.row 25 x1_5)])] [1, 1, 0, 1, 0] [m0] ⟨[(2, .one (.ptr 128 0)), (3, .one (.ptr 129 0)), (5, .one (.c (C.int .i64 v0)))], [(128, .box 51 [.c (C.int .i64 x0_0), .c (C.str x0_1), .c (C.str x0_2), .c (C.str x0_3), .c (C.row 51 x0_4), .c (C.row 25 x0_5)]), (129, .box 51 [.c (C.int .i64 x1_0), .c (C.str x1_1), .c (C.str x1_2), .c (C.str x1_3), .c (C.row 51 x1_4), .c (C.row 25 x1_5)])], 131, 82⟩ orielref12_SameFilter_d
noncomputable def orielref12_SameFilter_l1 (L : Lv) (k : Nat) (x0_0 : Int) (x0_1 : ByteArray) (x0_2 : ByteArray) (x0_3 : ByteArray) (x0_4 : List (List C)) (x0_5 : List (List C)) (x1_0 : Int) (x1_1 : ByteArray) (x1_2 : ByteArray) (x1_3 : ByteArray) (x1_4 : List (List C)) (x1_5 : List (List C)) (m0 : Nat) (v0 : Int) : Option Bool := headK Try.prog (orK L) kp k 27 [.v (.agg [.c (C.int .i64 x0_0), .c (C.str x0_1), .c (C.str x0_2), .c (C.str x0_3), .c (C.row 51 x0_4), .c (C.row 25 x0_5)]), .v (.agg [.c (C.int .i64 x1_0), .c (C.str x1_1), .c (C.str x1_2), .c (C.str x1_3), .c (C.row 51 x1_4), .c (C.row 25 x1_5)])] [1, 1, 1, 0, 1, 0] [m0] ⟨[(2, .one (.ptr 128 0)), (3, .one (.ptr 129 0)), (6, .one (.c (C.int .i64 v0)))], [(128, .box 51 [.c (C.int .i64 x0_0), .c (C.str x0_1), .c (C.str x0_2), .c (C.str x0_3), .c (C.row 51 x0_4), .c (C.row 25 x0_5)]), (129, .box 51 [.c (C.int .i64 x1_0), .c (C.str x1_1), .c (C.str x1_2), .c (C.str x1_3), .c (C.row 51 x1_4), .c (C.row 25 x1_5)])], 131, 82⟩ orielref12_SameFilter_d
noncomputable def orielref12_Same_b (L : Lv) (k : Nat) (x0_0 : Int) (x0_1 : List (List C)) (x0_2 : List (List C)) (x1_0 : Int) (x1_1 : List (List C)) (x1_2 : List (List C)) : Option Bool := bodyK Try.prog (orK L) kp k 35 [.v (.agg [.c (C.int .i64 x0_0), .c (C.row 25 x0_1), .c (C.row 51 x0_2)]), .v (.agg [.c (C.int .i64 x1_0), .c (C.row 25 x1_1), .c (C.row 51 x1_2)])] orielref12_Same_d
noncomputable def orielref12_Same_l0 (L : Lv) (k : Nat) (x0_0 : Int) (x0_1 : List (List C)) (x0_2 : List (List C)) (x1_0 : Int) (x1_1 : List (List C)) (x1_2 : List (List C)) (m0 : Nat) (v0 : Int) : Option Bool := headK Try.prog (orK L) kp k 35 [.v (.agg [.c (C.int .i64 x0_0), .c (C.row 25 x0_1), .c (C.row 51 x0_2)]), .v (.agg [.c (C.int .i64 x1_0), .c (C.row 25 x1_1), .c (C.row 51 x1_2)])] [1, 1, 0, 1, 0] [m0] ⟨[(2, .one (.ptr 128 0)), (3, .one (.ptr 129 0)), (5, .one (.c (C.int .i64 v0)))], [(128, .box 25 [.c (C.int .i64 x0_0), .c (C.row 25 x0_1), .c (C.row 51 x0_2)]), (129, .box 25 [.c (C.int .i64 x1_0), .c (C.row 25 x1_1), .c (C.row 51 x1_2)])], 131, 68⟩ orielref12_Same_d
noncomputable def orielref12_Same_l1 (L : Lv) (k : Nat) (x0_0 : Int) (x0_1 : List (List C)) (x0_2 : List (List C)) (x1_0 : Int) (x1_1 : List (List C)) (x1_2 : List (List C)) (m0 : Nat) (v0 : Int) : Option Bool := headK Try.prog (orK L) kp k 35 [.v (.agg [.c (C.int .i64 x0_0), .c (C.row 25 x0_1), .c (C.row 51 x0_2)]), .v (.agg [.c (C.int .i64 x1_0), .c (C.row 25 x1_1), .c (C.row 51 x1_2)])] [1, 1, 1, 0, 1, 0] [m0] ⟨[(2, .one (.ptr 128 0)), (3, .one (.ptr 129 0)), (6, .one (.c (C.int .i64 v0)))], [(128, .box 25 [.c (C.int .i64 x0_0), .c (C.row 25 x0_1), .c (C.row 51 x0_2)]), (129, .box 25 [.c (C.int .i64 x1_0), .c (C.row 25 x1_1), .c (C.row 51 x1_2)])], 131, 68⟩ orielref12_Same_d
noncomputable def orielref17_Closure_b (L : Lv) (k : Nat) (x0_0 : Int) (x0_1 : Int) (x0_2 : Int) (x0_3 : List (List C)) (x0_4 : List (List C)) (x1 : List (List C)) (x2 : List (List C)) : Option (List (List C)) := bodyK Try.prog (orK L) kp k 16 [.v (.agg [.c (C.int .i64 x0_0), .c (C.int .i64 x0_1), .c (C.int .i64 x0_2), .c (C.row 56 x0_3), .c (C.row 51 x0_4)]), .v (.one (.c (C.row 3 x1))), .v (.one (.c (C.row 4 x2)))] orielref17_Closure_d
noncomputable def orielref17_Closure_l0 (L : Lv) (k : Nat) (x0_0 : Int) (x0_1 : Int) (x0_2 : Int) (x0_3 : List (List C)) (x0_4 : List (List C)) (x1 : List (List C)) (x2 : List (List C)) (m0 : Nat) (v2 : Int) (v8 : List (List C)) : Option (List (List C)) := headK Try.prog (orK L) kp k 16 [.v (.agg [.c (C.int .i64 x0_0), .c (C.int .i64 x0_1), .c (C.int .i64 x0_2), .c (C.row 56 x0_3), .c (C.row 51 x0_4)]), .v (.one (.c (C.row 3 x1))), .v (.one (.c (C.row 4 x2)))] [1, 1, 0, 1, 0] [m0] ⟨[(1, .one (.c (C.row 3 x1))), (2, .one (.c (C.row 4 x2))), (3, .one (.ptr 192 0)), (7, .one (.arr 193)), (8, .one (.c (C.int .i64 v2)))], [(192, .box 31 [.c (C.int .i64 x0_0), .c (C.int .i64 x0_1), .c (C.int .i64 x0_2), .c (C.row 56 x0_3), .c (C.row 51 x0_4)]), (193, .arr 4 false v8)], 195, 72⟩ orielref17_Closure_d
noncomputable def orielref17_Closure_l1 (L : Lv) (k : Nat) (x0_0 : Int) (x0_1 : Int) (x0_2 : Int) (x0_3 : List (List C)) (x0_4 : List (List C)) (x1 : List (List C)) (x2 : List (List C)) (m0 : Nat) (v1 : Int) (v7 : List (List C)) : Option (List (List C)) := headK Try.prog (orK L) kp k 16 [.v (.agg [.c (C.int .i64 x0_0), .c (C.int .i64 x0_1), .c (C.int .i64 x0_2), .c (C.row 56 x0_3), .c (C.row 51 x0_4)]), .v (.one (.c (C.row 3 x1))), .v (.one (.c (C.row 4 x2)))] [1, 1, 1, 0, 1, 0] [m0] ⟨[(2, .one (.c (C.row 4 x2))), (3, .one (.ptr 192 0)), (7, .one (.arr 193)), (9, .one (.c (C.int .i64 v1)))], [(192, .box 31 [.c (C.int .i64 x0_0), .c (C.int .i64 x0_1), .c (C.int .i64 x0_2), .c (C.row 56 x0_3), .c (C.row 51 x0_4)]), (193, .arr 4 false v7)], 195, 72⟩ orielref17_Closure_d
noncomputable def orielref17_Closure_l2 (L : Lv) (k : Nat) (x0_0 : Int) (x0_1 : Int) (x0_2 : Int) (x0_3 : List (List C)) (x0_4 : List (List C)) (x1 : List (List C)) (x2 : List (List C)) (m0 : Nat) (m1 : Nat) (v1 : Int) (v2 : Int) (v8 : List (List C)) : Option (List (List C)) := headK Try.prog (orK L) kp k 16 [.v (.agg [.c (C.int .i64 x0_0), .c (C.int .i64 x0_1), .c (C.int .i64 x0_2), .c (C.row 56 x0_3), .c (C.row 51 x0_4)]), .v (.one (.c (C.row 3 x1))), .v (.one (.c (C.row 4 x2)))] [1, 1, 1, 0, 1, 0, 0, 1, 0, 0, 1, 0] [m0, m1] ⟨[(2, .one (.c (C.row 4 x2))), (3, .one (.ptr 192 0)), (7, .one (.arr 193)), (9, .one (.c (C.int .i64 v1))), (10, .one (.c (C.int .i64 v2)))], [(192, .box 31 [.c (C.int .i64 x0_0), .c (C.int .i64 x0_1), .c (C.int .i64 x0_2), .c (C.row 56 x0_3), .c (C.row 51 x0_4)]), (193, .arr 4 false v8)], 195, 72⟩ orielref17_Closure_d
noncomputable def orielref17_Moves_b (L : Lv) (k : Nat) (x0_0 : Int) (x0_1 : Int) (x0_2 : Int) (x0_3 : List (List C)) (x0_4 : List (List C)) (x1 : List (List C)) (x2 : Int) : Option (List (List C)) := bodyK Try.prog (orK L) kp k 18 [.v (.agg [.c (C.int .i64 x0_0), .c (C.int .i64 x0_1), .c (C.int .i64 x0_2), .c (C.row 56 x0_3), .c (C.row 51 x0_4)]), .v (.one (.c (C.row 4 x1))), .v (.one (.c (C.int .i64 x2)))] orielref17_Moves_d
noncomputable def orielref17_Moves_l0 (L : Lv) (k : Nat) (x0_0 : Int) (x0_1 : Int) (x0_2 : Int) (x0_3 : List (List C)) (x0_4 : List (List C)) (x1 : List (List C)) (x2 : Int) (m0 : Nat) (v2 : Int) (v8 : List (List C)) : Option (List (List C)) := headK Try.prog (orK L) kp k 18 [.v (.agg [.c (C.int .i64 x0_0), .c (C.int .i64 x0_1), .c (C.int .i64 x0_2), .c (C.row 56 x0_3), .c (C.row 51 x0_4)]), .v (.one (.c (C.row 4 x1))), .v (.one (.c (C.int .i64 x2)))] [1, 1, 0, 1, 0] [m0] ⟨[(1, .one (.c (C.row 4 x1))), (2, .one (.c (C.int .i64 x2))), (3, .one (.ptr 192 0)), (7, .one (.arr 193)), (8, .one (.c (C.int .i64 v2)))], [(192, .box 31 [.c (C.int .i64 x0_0), .c (C.int .i64 x0_1), .c (C.int .i64 x0_2), .c (C.row 56 x0_3), .c (C.row 51 x0_4)]), (193, .arr 4 false v8)], 195, 41⟩ orielref17_Moves_d
noncomputable def lv : Nat → Lv
  | 0 => { oriellaw17_ProgCompiles := fun _ _ _ => none, oriellaw17_ProgMoves := fun _ _ _ _ _ _ => none, oriellaw17_ProgKeeps := fun _ _ _ _ => none, oriellaw17_ProgShapes := fun _ _ _ => none, oriellaw17_awake := none, prog_Compile := fun _ _ _ => none, prog_maker_path := fun _ _ _ _ _ _ _ _ => none, prog_maker_step := fun _ _ _ _ _ _ _ => none, prog_maker_seq := fun _ _ _ _ _ _ => none, prog_maker_alt := fun _ _ _ _ _ _ => none, prog_maker_state := fun _ _ _ _ _ => none, prog_maker_lay := fun _ _ _ _ _ _ => none, prog_maker_free := fun _ _ _ _ _ _ _ => none, prog_Closure := fun _ _ _ _ _ _ _ => none, orielref12_Right := fun _ _ _ => none, orielref17_SameBits := fun _ _ => none, orielref12_Size := fun _ _ _ => none, orielref12_size := fun _ _ _ _ => none, orielref12_sizeFilter := fun _ _ _ _ _ _ _ => none, prog_Moves := fun _ _ _ _ _ _ _ => none, orielref12_path := fun _ _ _ _ => none, orielref12_filter := fun _ _ _ _ _ _ _ => none, orielref12_named := fun _ _ => none, orielref04_Right := fun _ => none, orielref03_Plain := fun _ => none, orielref01_All := fun _ => none, orielref02_Start := fun _ => none, orielref01_Rune := fun _ _ => none, orielref01_Put := fun _ => none, orielref01_cut := fun _ _ => none, orielref01_value := fun _ _ _ => none, orielref17_Compile := fun _ _ _ => none, orielref02_Char := fun _ => none, orielref02_Part := fun _ => none, orielref01_begins := fun _ _ _ => none, orielref17_add := fun _ _ _ _ _ _ _ _ => none, orielref02_Blank := fun _ => none, orielref17_edge := fun _ _ _ _ _ _ _ _ _ => none, orielref05_Find := fun _ _ _ => none, orielref17_Same := fun _ _ _ _ _ _ _ _ _ _ => none, oriellaw17_bits := fun _ _ => none, orielref12_SameFilter := fun _ _ _ _ _ _ _ _ _ _ _ _ => none, orielref12_Same := fun _ _ _ _ _ _ => none, orielref17_Closure := fun _ _ _ _ _ _ _ => none, orielref17_Moves := fun _ _ _ _ _ _ _ => none }
  | n + 1 => { oriellaw17_ProgCompiles := oriellaw17_ProgCompiles_b (lv n) n, oriellaw17_ProgMoves := oriellaw17_ProgMoves_b (lv n) n, oriellaw17_ProgKeeps := oriellaw17_ProgKeeps_b (lv n) n, oriellaw17_ProgShapes := oriellaw17_ProgShapes_b (lv n) n, oriellaw17_awake := oriellaw17_awake_b (lv n) n, prog_Compile := prog_Compile_b (lv n) n, prog_maker_path := prog_maker_path_b (lv n) n, prog_maker_step := prog_maker_step_b (lv n) n, prog_maker_seq := prog_maker_seq_b (lv n) n, prog_maker_alt := prog_maker_alt_b (lv n) n, prog_maker_state := prog_maker_state_b (lv n) n, prog_maker_lay := prog_maker_lay_b (lv n) n, prog_maker_free := prog_maker_free_b (lv n) n, prog_Closure := prog_Closure_b (lv n) n, orielref12_Right := orielref12_Right_b (lv n) n, orielref17_SameBits := orielref17_SameBits_b (lv n) n, orielref12_Size := orielref12_Size_b (lv n) n, orielref12_size := orielref12_size_b (lv n) n, orielref12_sizeFilter := orielref12_sizeFilter_b (lv n) n, prog_Moves := prog_Moves_b (lv n) n, orielref12_path := orielref12_path_b (lv n) n, orielref12_filter := orielref12_filter_b (lv n) n, orielref12_named := orielref12_named_b (lv n) n, orielref04_Right := orielref04_Right_b (lv n) n, orielref03_Plain := orielref03_Plain_b (lv n) n, orielref01_All := orielref01_All_b (lv n) n, orielref02_Start := orielref02_Start_b (lv n) n, orielref01_Rune := orielref01_Rune_b (lv n) n, orielref01_Put := orielref01_Put_b (lv n) n, orielref01_cut := orielref01_cut_b (lv n) n, orielref01_value := orielref01_value_b (lv n) n, orielref17_Compile := orielref17_Compile_b (lv n) n, orielref02_Char := orielref02_Char_b (lv n) n, orielref02_Part := orielref02_Part_b (lv n) n, orielref01_begins := orielref01_begins_b (lv n) n, orielref17_add := orielref17_add_b (lv n) n, orielref02_Blank := orielref02_Blank_b (lv n) n, orielref17_edge := orielref17_edge_b (lv n) n, orielref05_Find := orielref05_Find_b (lv n) n, orielref17_Same := orielref17_Same_b (lv n) n, oriellaw17_bits := oriellaw17_bits_b (lv n) n, orielref12_SameFilter := orielref12_SameFilter_b (lv n) n, orielref12_Same := orielref12_Same_b (lv n) n, orielref17_Closure := orielref17_Closure_b (lv n) n, orielref17_Moves := orielref17_Moves_b (lv n) n }
theorem oriellaw17_ProgCompiles_lv (n : Nat) : (lv (n + 1)).oriellaw17_ProgCompiles = oriellaw17_ProgCompiles_b (lv n) n := by kernel_rfl
theorem oriellaw17_ProgCompiles_up (x0_0 : Int) (x0_1 : List (List C)) (x0_2 : List (List C)) {Q : Bool → Prop} (h : Tot (fun n _ _ => oriellaw17_ProgCompiles_b (lv n) n x0_0 x0_1 x0_2) Q) : Tot (fun n _ _ => (lv n).oriellaw17_ProgCompiles x0_0 x0_1 x0_2) Q := Tot.up (fun n => by rw [oriellaw17_ProgCompiles_lv]) h
theorem oriellaw17_ProgCompiles_ok {Ω : Type} (n : Nat) (ih : ∀ m, n = m + 1 → ∀ {Ω : Type}, TabOK (Ω := Ω) (call Try.prog kp m) (orK (lv m))) {f : FuncId} {l : List Arg} {K : Res → Option Ω} {next : Option Ω} {r : Ω} (h : oriellaw17_ProgCompiles_o (lv n) f l K next = some r) : (∃ R, call Try.prog kp n f l = some R ∧ K R = some r) ∨ next = some r := by
  refine rowO_ok (cl := call Try.prog kp n) (ea := oriellaw17_ProgCompiles_e) (dr := oriellaw17_ProgCompiles_d) (fun _ _ h => oriellaw17_ProgCompiles_ae h) (fun _ _ h => oriellaw17_ProgCompiles_dr h) (fun a v h => ?_) h
  cases n with
  | zero => cases h
  | succ n =>
    rw [oriellaw17_ProgCompiles_lv] at h
    exact bodyK_ok (ih n rfl) h
theorem oriellaw17_ProgMoves_lv (n : Nat) : (lv (n + 1)).oriellaw17_ProgMoves = oriellaw17_ProgMoves_b (lv n) n := by kernel_rfl
theorem oriellaw17_ProgMoves_up (x0_0 : Int) (x0_1 : List (List C)) (x0_2 : List (List C)) (x1 : Int) (x2 : Int) (x3 : Int) {Q : Bool → Prop} (h : Tot (fun n _ _ => oriellaw17_ProgMoves_b (lv n) n x0_0 x0_1 x0_2 x1 x2 x3) Q) : Tot (fun n _ _ => (lv n).oriellaw17_ProgMoves x0_0 x0_1 x0_2 x1 x2 x3) Q := Tot.up (fun n => by rw [oriellaw17_ProgMoves_lv]) h
theorem oriellaw17_ProgMoves_ok {Ω : Type} (n : Nat) (ih : ∀ m, n = m + 1 → ∀ {Ω : Type}, TabOK (Ω := Ω) (call Try.prog kp m) (orK (lv m))) {f : FuncId} {l : List Arg} {K : Res → Option Ω} {next : Option Ω} {r : Ω} (h : oriellaw17_ProgMoves_o (lv n) f l K next = some r) : (∃ R, call Try.prog kp n f l = some R ∧ K R = some r) ∨ next = some r := by
  refine rowO_ok (cl := call Try.prog kp n) (ea := oriellaw17_ProgMoves_e) (dr := oriellaw17_ProgMoves_d) (fun _ _ h => oriellaw17_ProgMoves_ae h) (fun _ _ h => oriellaw17_ProgMoves_dr h) (fun a v h => ?_) h
  cases n with
  | zero => cases h
  | succ n =>
    rw [oriellaw17_ProgMoves_lv] at h
    exact bodyK_ok (ih n rfl) h
theorem oriellaw17_ProgKeeps_lv (n : Nat) : (lv (n + 1)).oriellaw17_ProgKeeps = oriellaw17_ProgKeeps_b (lv n) n := by kernel_rfl
theorem oriellaw17_ProgKeeps_up (x0_0 : Int) (x0_1 : List (List C)) (x0_2 : List (List C)) (x1 : Int) {Q : Bool → Prop} (h : Tot (fun n _ _ => oriellaw17_ProgKeeps_b (lv n) n x0_0 x0_1 x0_2 x1) Q) : Tot (fun n _ _ => (lv n).oriellaw17_ProgKeeps x0_0 x0_1 x0_2 x1) Q := Tot.up (fun n => by rw [oriellaw17_ProgKeeps_lv]) h
theorem oriellaw17_ProgKeeps_ok {Ω : Type} (n : Nat) (ih : ∀ m, n = m + 1 → ∀ {Ω : Type}, TabOK (Ω := Ω) (call Try.prog kp m) (orK (lv m))) {f : FuncId} {l : List Arg} {K : Res → Option Ω} {next : Option Ω} {r : Ω} (h : oriellaw17_ProgKeeps_o (lv n) f l K next = some r) : (∃ R, call Try.prog kp n f l = some R ∧ K R = some r) ∨ next = some r := by
  refine rowO_ok (cl := call Try.prog kp n) (ea := oriellaw17_ProgKeeps_e) (dr := oriellaw17_ProgKeeps_d) (fun _ _ h => oriellaw17_ProgKeeps_ae h) (fun _ _ h => oriellaw17_ProgKeeps_dr h) (fun a v h => ?_) h
  cases n with
  | zero => cases h
  | succ n =>
    rw [oriellaw17_ProgKeeps_lv] at h
    exact bodyK_ok (ih n rfl) h
theorem oriellaw17_ProgShapes_lv (n : Nat) : (lv (n + 1)).oriellaw17_ProgShapes = oriellaw17_ProgShapes_b (lv n) n := by kernel_rfl
theorem oriellaw17_ProgShapes_up (x0_0 : Int) (x0_1 : List (List C)) (x0_2 : List (List C)) {Q : Bool → Prop} (h : Tot (fun n _ _ => oriellaw17_ProgShapes_b (lv n) n x0_0 x0_1 x0_2) Q) : Tot (fun n _ _ => (lv n).oriellaw17_ProgShapes x0_0 x0_1 x0_2) Q := Tot.up (fun n => by rw [oriellaw17_ProgShapes_lv]) h
theorem oriellaw17_ProgShapes_ok {Ω : Type} (n : Nat) (ih : ∀ m, n = m + 1 → ∀ {Ω : Type}, TabOK (Ω := Ω) (call Try.prog kp m) (orK (lv m))) {f : FuncId} {l : List Arg} {K : Res → Option Ω} {next : Option Ω} {r : Ω} (h : oriellaw17_ProgShapes_o (lv n) f l K next = some r) : (∃ R, call Try.prog kp n f l = some R ∧ K R = some r) ∨ next = some r := by
  refine rowO_ok (cl := call Try.prog kp n) (ea := oriellaw17_ProgShapes_e) (dr := oriellaw17_ProgShapes_d) (fun _ _ h => oriellaw17_ProgShapes_ae h) (fun _ _ h => oriellaw17_ProgShapes_dr h) (fun a v h => ?_) h
  cases n with
  | zero => cases h
  | succ n =>
    rw [oriellaw17_ProgShapes_lv] at h
    exact bodyK_ok (ih n rfl) h
theorem oriellaw17_awake_lv (n : Nat) : (lv (n + 1)).oriellaw17_awake = oriellaw17_awake_b (lv n) n := by kernel_rfl
theorem oriellaw17_awake_up {Q : Bool → Prop} (h : Tot (fun n _ _ => oriellaw17_awake_b (lv n) n) Q) : Tot (fun n _ _ => (lv n).oriellaw17_awake) Q := Tot.up (fun n => by rw [oriellaw17_awake_lv]) h
theorem oriellaw17_awake_ok {Ω : Type} (n : Nat) (ih : ∀ m, n = m + 1 → ∀ {Ω : Type}, TabOK (Ω := Ω) (call Try.prog kp m) (orK (lv m))) {f : FuncId} {l : List Arg} {K : Res → Option Ω} {next : Option Ω} {r : Ω} (h : oriellaw17_awake_o (lv n) f l K next = some r) : (∃ R, call Try.prog kp n f l = some R ∧ K R = some r) ∨ next = some r := by
  refine rowO_ok (cl := call Try.prog kp n) (ea := oriellaw17_awake_e) (dr := oriellaw17_awake_d) (fun _ _ h => oriellaw17_awake_ae h) (fun _ _ h => oriellaw17_awake_dr h) (fun a v h => ?_) h
  cases n with
  | zero => cases h
  | succ n =>
    rw [oriellaw17_awake_lv] at h
    exact bodyK_ok (ih n rfl) h
theorem prog_Compile_lv (n : Nat) : (lv (n + 1)).prog_Compile = prog_Compile_b (lv n) n := by kernel_rfl
theorem prog_Compile_up (x0_0 : Int) (x0_1 : List (List C)) (x0_2 : List (List C)) {Q : (Int × Int × Int × (List (List C)) × (List (List C))) → Prop} (h : Tot (fun n _ _ => prog_Compile_b (lv n) n x0_0 x0_1 x0_2) Q) : Tot (fun n _ _ => (lv n).prog_Compile x0_0 x0_1 x0_2) Q := Tot.up (fun n => by rw [prog_Compile_lv]) h
theorem prog_Compile_ok {Ω : Type} (n : Nat) (ih : ∀ m, n = m + 1 → ∀ {Ω : Type}, TabOK (Ω := Ω) (call Try.prog kp m) (orK (lv m))) {f : FuncId} {l : List Arg} {K : Res → Option Ω} {next : Option Ω} {r : Ω} (h : prog_Compile_o (lv n) f l K next = some r) : (∃ R, call Try.prog kp n f l = some R ∧ K R = some r) ∨ next = some r := by
  refine rowO_ok (cl := call Try.prog kp n) (ea := prog_Compile_e) (dr := prog_Compile_d) (fun _ _ h => prog_Compile_ae h) (fun _ _ h => prog_Compile_dr h) (fun a v h => ?_) h
  cases n with
  | zero => cases h
  | succ n =>
    rw [prog_Compile_lv] at h
    exact bodyK_ok (ih n rfl) h
theorem prog_maker_path_lv (n : Nat) : (lv (n + 1)).prog_maker_path = prog_maker_path_b (lv n) n := by kernel_rfl
theorem prog_maker_path_up (x0_0 : Int) (x0_1 : Int) (x0_2 : Int) (x0_3 : List (List C)) (x0_4 : List (List C)) (x1_0 : Int) (x1_1 : List (List C)) (x1_2 : List (List C)) {Q : (Int × Int × Int × Int × Int × (List (List C)) × (List (List C))) → Prop} (h : Tot (fun n _ _ => prog_maker_path_b (lv n) n x0_0 x0_1 x0_2 x0_3 x0_4 x1_0 x1_1 x1_2) Q) : Tot (fun n _ _ => (lv n).prog_maker_path x0_0 x0_1 x0_2 x0_3 x0_4 x1_0 x1_1 x1_2) Q := Tot.up (fun n => by rw [prog_maker_path_lv]) h
theorem prog_maker_path_ok {Ω : Type} (n : Nat) (ih : ∀ m, n = m + 1 → ∀ {Ω : Type}, TabOK (Ω := Ω) (call Try.prog kp m) (orK (lv m))) {f : FuncId} {l : List Arg} {K : Res → Option Ω} {next : Option Ω} {r : Ω} (h : prog_maker_path_o (lv n) f l K next = some r) : (∃ R, call Try.prog kp n f l = some R ∧ K R = some r) ∨ next = some r := by
  refine rowO_ok (cl := call Try.prog kp n) (ea := prog_maker_path_e) (dr := prog_maker_path_d) (fun _ _ h => prog_maker_path_ae h) (fun _ _ h => prog_maker_path_dr h) (fun a v h => ?_) h
  cases n with
  | zero => cases h
  | succ n =>
    rw [prog_maker_path_lv] at h
    exact bodyK_ok (ih n rfl) h
theorem prog_maker_step_lv (n : Nat) : (lv (n + 1)).prog_maker_step = prog_maker_step_b (lv n) n := by kernel_rfl
theorem prog_maker_step_up (x0_0 : Int) (x0_1 : Int) (x0_2 : Int) (x0_3 : List (List C)) (x0_4 : List (List C)) (x1 : Int) (x2 : Int) {Q : (Int × Int × Int × Int × Int × (List (List C)) × (List (List C))) → Prop} (h : Tot (fun n _ _ => prog_maker_step_b (lv n) n x0_0 x0_1 x0_2 x0_3 x0_4 x1 x2) Q) : Tot (fun n _ _ => (lv n).prog_maker_step x0_0 x0_1 x0_2 x0_3 x0_4 x1 x2) Q := Tot.up (fun n => by rw [prog_maker_step_lv]) h
theorem prog_maker_step_ok {Ω : Type} (n : Nat) (ih : ∀ m, n = m + 1 → ∀ {Ω : Type}, TabOK (Ω := Ω) (call Try.prog kp m) (orK (lv m))) {f : FuncId} {l : List Arg} {K : Res → Option Ω} {next : Option Ω} {r : Ω} (h : prog_maker_step_o (lv n) f l K next = some r) : (∃ R, call Try.prog kp n f l = some R ∧ K R = some r) ∨ next = some r := by
  refine rowO_ok (cl := call Try.prog kp n) (ea := prog_maker_step_e) (dr := prog_maker_step_d) (fun _ _ h => prog_maker_step_ae h) (fun _ _ h => prog_maker_step_dr h) (fun a v h => ?_) h
  cases n with
  | zero => cases h
  | succ n =>
    rw [prog_maker_step_lv] at h
    exact bodyK_ok (ih n rfl) h
theorem prog_maker_seq_lv (n : Nat) : (lv (n + 1)).prog_maker_seq = prog_maker_seq_b (lv n) n := by kernel_rfl
theorem prog_maker_seq_up (x0_0 : Int) (x0_1 : Int) (x0_2 : Int) (x0_3 : List (List C)) (x0_4 : List (List C)) (x1 : List (List C)) {Q : (Int × Int × Int × Int × Int × (List (List C)) × (List (List C))) → Prop} (h : Tot (fun n _ _ => prog_maker_seq_b (lv n) n x0_0 x0_1 x0_2 x0_3 x0_4 x1) Q) : Tot (fun n _ _ => (lv n).prog_maker_seq x0_0 x0_1 x0_2 x0_3 x0_4 x1) Q := Tot.up (fun n => by rw [prog_maker_seq_lv]) h
theorem prog_maker_seq_ok {Ω : Type} (n : Nat) (ih : ∀ m, n = m + 1 → ∀ {Ω : Type}, TabOK (Ω := Ω) (call Try.prog kp m) (orK (lv m))) {f : FuncId} {l : List Arg} {K : Res → Option Ω} {next : Option Ω} {r : Ω} (h : prog_maker_seq_o (lv n) f l K next = some r) : (∃ R, call Try.prog kp n f l = some R ∧ K R = some r) ∨ next = some r := by
  refine rowO_ok (cl := call Try.prog kp n) (ea := prog_maker_seq_e) (dr := prog_maker_seq_d) (fun _ _ h => prog_maker_seq_ae h) (fun _ _ h => prog_maker_seq_dr h) (fun a v h => ?_) h
  cases n with
  | zero => cases h
  | succ n =>
    rw [prog_maker_seq_lv] at h
    exact bodyK_ok (ih n rfl) h
theorem prog_maker_alt_lv (n : Nat) : (lv (n + 1)).prog_maker_alt = prog_maker_alt_b (lv n) n := by kernel_rfl
theorem prog_maker_alt_up (x0_0 : Int) (x0_1 : Int) (x0_2 : Int) (x0_3 : List (List C)) (x0_4 : List (List C)) (x1 : List (List C)) {Q : (Int × Int × Int × Int × Int × (List (List C)) × (List (List C))) → Prop} (h : Tot (fun n _ _ => prog_maker_alt_b (lv n) n x0_0 x0_1 x0_2 x0_3 x0_4 x1) Q) : Tot (fun n _ _ => (lv n).prog_maker_alt x0_0 x0_1 x0_2 x0_3 x0_4 x1) Q := Tot.up (fun n => by rw [prog_maker_alt_lv]) h
theorem prog_maker_alt_ok {Ω : Type} (n : Nat) (ih : ∀ m, n = m + 1 → ∀ {Ω : Type}, TabOK (Ω := Ω) (call Try.prog kp m) (orK (lv m))) {f : FuncId} {l : List Arg} {K : Res → Option Ω} {next : Option Ω} {r : Ω} (h : prog_maker_alt_o (lv n) f l K next = some r) : (∃ R, call Try.prog kp n f l = some R ∧ K R = some r) ∨ next = some r := by
  refine rowO_ok (cl := call Try.prog kp n) (ea := prog_maker_alt_e) (dr := prog_maker_alt_d) (fun _ _ h => prog_maker_alt_ae h) (fun _ _ h => prog_maker_alt_dr h) (fun a v h => ?_) h
  cases n with
  | zero => cases h
  | succ n =>
    rw [prog_maker_alt_lv] at h
    exact bodyK_ok (ih n rfl) h
theorem prog_maker_state_lv (n : Nat) : (lv (n + 1)).prog_maker_state = prog_maker_state_b (lv n) n := by kernel_rfl
theorem prog_maker_state_up (x0_0 : Int) (x0_1 : Int) (x0_2 : Int) (x0_3 : List (List C)) (x0_4 : List (List C)) {Q : (Int × Int × Int × Int × (List (List C)) × (List (List C))) → Prop} (h : Tot (fun n _ _ => prog_maker_state_b (lv n) n x0_0 x0_1 x0_2 x0_3 x0_4) Q) : Tot (fun n _ _ => (lv n).prog_maker_state x0_0 x0_1 x0_2 x0_3 x0_4) Q := Tot.up (fun n => by rw [prog_maker_state_lv]) h
theorem prog_maker_state_ok {Ω : Type} (n : Nat) (ih : ∀ m, n = m + 1 → ∀ {Ω : Type}, TabOK (Ω := Ω) (call Try.prog kp m) (orK (lv m))) {f : FuncId} {l : List Arg} {K : Res → Option Ω} {next : Option Ω} {r : Ω} (h : prog_maker_state_o (lv n) f l K next = some r) : (∃ R, call Try.prog kp n f l = some R ∧ K R = some r) ∨ next = some r := by
  refine rowO_ok (cl := call Try.prog kp n) (ea := prog_maker_state_e) (dr := prog_maker_state_d) (fun _ _ h => prog_maker_state_ae h) (fun _ _ h => prog_maker_state_dr h) (fun a v h => ?_) h
  cases n with
  | zero => cases h
  | succ n =>
    rw [prog_maker_state_lv] at h
    exact bodyK_ok (ih n rfl) h
theorem prog_maker_lay_lv (n : Nat) : (lv (n + 1)).prog_maker_lay = prog_maker_lay_b (lv n) n := by kernel_rfl
theorem prog_maker_lay_up (x0_0 : Int) (x0_1 : Int) (x0_2 : Int) (x0_3 : List (List C)) (x0_4 : List (List C)) (x1 : List (List C)) {Q : (Int × Int × Int × (List (List C)) × (List (List C))) → Prop} (h : Tot (fun n _ _ => prog_maker_lay_b (lv n) n x0_0 x0_1 x0_2 x0_3 x0_4 x1) Q) : Tot (fun n _ _ => (lv n).prog_maker_lay x0_0 x0_1 x0_2 x0_3 x0_4 x1) Q := Tot.up (fun n => by rw [prog_maker_lay_lv]) h
theorem prog_maker_lay_ok {Ω : Type} (n : Nat) (ih : ∀ m, n = m + 1 → ∀ {Ω : Type}, TabOK (Ω := Ω) (call Try.prog kp m) (orK (lv m))) {f : FuncId} {l : List Arg} {K : Res → Option Ω} {next : Option Ω} {r : Ω} (h : prog_maker_lay_o (lv n) f l K next = some r) : (∃ R, call Try.prog kp n f l = some R ∧ K R = some r) ∨ next = some r := by
  refine rowO_ok (cl := call Try.prog kp n) (ea := prog_maker_lay_e) (dr := prog_maker_lay_d) (fun _ _ h => prog_maker_lay_ae h) (fun _ _ h => prog_maker_lay_dr h) (fun a v h => ?_) h
  cases n with
  | zero => cases h
  | succ n =>
    rw [prog_maker_lay_lv] at h
    exact bodyK_ok (ih n rfl) h
theorem prog_maker_free_lv (n : Nat) : (lv (n + 1)).prog_maker_free = prog_maker_free_b (lv n) n := by kernel_rfl
theorem prog_maker_free_up (x0_0 : Int) (x0_1 : Int) (x0_2 : Int) (x0_3 : List (List C)) (x0_4 : List (List C)) (x1 : Int) (x2 : Int) {Q : (Int × Int × Int × (List (List C)) × (List (List C))) → Prop} (h : Tot (fun n _ _ => prog_maker_free_b (lv n) n x0_0 x0_1 x0_2 x0_3 x0_4 x1 x2) Q) : Tot (fun n _ _ => (lv n).prog_maker_free x0_0 x0_1 x0_2 x0_3 x0_4 x1 x2) Q := Tot.up (fun n => by rw [prog_maker_free_lv]) h
theorem prog_maker_free_ok {Ω : Type} (n : Nat) (ih : ∀ m, n = m + 1 → ∀ {Ω : Type}, TabOK (Ω := Ω) (call Try.prog kp m) (orK (lv m))) {f : FuncId} {l : List Arg} {K : Res → Option Ω} {next : Option Ω} {r : Ω} (h : prog_maker_free_o (lv n) f l K next = some r) : (∃ R, call Try.prog kp n f l = some R ∧ K R = some r) ∨ next = some r := by
  refine rowO_ok (cl := call Try.prog kp n) (ea := prog_maker_free_e) (dr := prog_maker_free_d) (fun _ _ h => prog_maker_free_ae h) (fun _ _ h => prog_maker_free_dr h) (fun a v h => ?_) h
  cases n with
  | zero => cases h
  | succ n =>
    rw [prog_maker_free_lv] at h
    exact bodyK_ok (ih n rfl) h
theorem prog_Closure_lv (n : Nat) : (lv (n + 1)).prog_Closure = prog_Closure_b (lv n) n := by kernel_rfl
theorem prog_Closure_up (x0_0 : Int) (x0_1 : Int) (x0_2 : Int) (x0_3 : List (List C)) (x0_4 : List (List C)) (x1 : List (List C)) (x2 : List (List C)) {Q : (List (List C)) → Prop} (h : Tot (fun n _ _ => prog_Closure_b (lv n) n x0_0 x0_1 x0_2 x0_3 x0_4 x1 x2) Q) : Tot (fun n _ _ => (lv n).prog_Closure x0_0 x0_1 x0_2 x0_3 x0_4 x1 x2) Q := Tot.up (fun n => by rw [prog_Closure_lv]) h
theorem prog_Closure_ok {Ω : Type} (n : Nat) (ih : ∀ m, n = m + 1 → ∀ {Ω : Type}, TabOK (Ω := Ω) (call Try.prog kp m) (orK (lv m))) {f : FuncId} {l : List Arg} {K : Res → Option Ω} {next : Option Ω} {r : Ω} (h : prog_Closure_o (lv n) f l K next = some r) : (∃ R, call Try.prog kp n f l = some R ∧ K R = some r) ∨ next = some r := by
  refine rowO_ok (cl := call Try.prog kp n) (ea := prog_Closure_e) (dr := prog_Closure_d) (fun _ _ h => prog_Closure_ae h) (fun _ _ h => prog_Closure_dr h) (fun a v h => ?_) h
  cases n with
  | zero => cases h
  | succ n =>
    rw [prog_Closure_lv] at h
    exact bodyK_ok (ih n rfl) h
theorem orielref12_Right_lv (n : Nat) : (lv (n + 1)).orielref12_Right = orielref12_Right_b (lv n) n := by kernel_rfl
theorem orielref12_Right_up (x0_0 : Int) (x0_1 : List (List C)) (x0_2 : List (List C)) {Q : Bool → Prop} (h : Tot (fun n _ _ => orielref12_Right_b (lv n) n x0_0 x0_1 x0_2) Q) : Tot (fun n _ _ => (lv n).orielref12_Right x0_0 x0_1 x0_2) Q := Tot.up (fun n => by rw [orielref12_Right_lv]) h
theorem orielref12_Right_ok {Ω : Type} (n : Nat) (ih : ∀ m, n = m + 1 → ∀ {Ω : Type}, TabOK (Ω := Ω) (call Try.prog kp m) (orK (lv m))) {f : FuncId} {l : List Arg} {K : Res → Option Ω} {next : Option Ω} {r : Ω} (h : orielref12_Right_o (lv n) f l K next = some r) : (∃ R, call Try.prog kp n f l = some R ∧ K R = some r) ∨ next = some r := by
  refine rowO_ok (cl := call Try.prog kp n) (ea := orielref12_Right_e) (dr := orielref12_Right_d) (fun _ _ h => orielref12_Right_ae h) (fun _ _ h => orielref12_Right_dr h) (fun a v h => ?_) h
  cases n with
  | zero => cases h
  | succ n =>
    rw [orielref12_Right_lv] at h
    exact bodyK_ok (ih n rfl) h
theorem orielref17_SameBits_lv (n : Nat) : (lv (n + 1)).orielref17_SameBits = orielref17_SameBits_b (lv n) n := by kernel_rfl
theorem orielref17_SameBits_up (x0 : List (List C)) (x1 : List (List C)) {Q : Bool → Prop} (h : Tot (fun n _ _ => orielref17_SameBits_b (lv n) n x0 x1) Q) : Tot (fun n _ _ => (lv n).orielref17_SameBits x0 x1) Q := Tot.up (fun n => by rw [orielref17_SameBits_lv]) h
theorem orielref17_SameBits_ok {Ω : Type} (n : Nat) (ih : ∀ m, n = m + 1 → ∀ {Ω : Type}, TabOK (Ω := Ω) (call Try.prog kp m) (orK (lv m))) {f : FuncId} {l : List Arg} {K : Res → Option Ω} {next : Option Ω} {r : Ω} (h : orielref17_SameBits_o (lv n) f l K next = some r) : (∃ R, call Try.prog kp n f l = some R ∧ K R = some r) ∨ next = some r := by
  refine rowO_ok (cl := call Try.prog kp n) (ea := orielref17_SameBits_e) (dr := orielref17_SameBits_d) (fun _ _ h => orielref17_SameBits_ae h) (fun _ _ h => orielref17_SameBits_dr h) (fun a v h => ?_) h
  cases n with
  | zero => cases h
  | succ n =>
    rw [orielref17_SameBits_lv] at h
    exact bodyK_ok (ih n rfl) h
theorem orielref12_Size_lv (n : Nat) : (lv (n + 1)).orielref12_Size = orielref12_Size_b (lv n) n := by kernel_rfl
theorem orielref12_Size_up (x0_0 : Int) (x0_1 : List (List C)) (x0_2 : List (List C)) {Q : Int → Prop} (h : Tot (fun n _ _ => orielref12_Size_b (lv n) n x0_0 x0_1 x0_2) Q) : Tot (fun n _ _ => (lv n).orielref12_Size x0_0 x0_1 x0_2) Q := Tot.up (fun n => by rw [orielref12_Size_lv]) h
theorem orielref12_Size_ok {Ω : Type} (n : Nat) (ih : ∀ m, n = m + 1 → ∀ {Ω : Type}, TabOK (Ω := Ω) (call Try.prog kp m) (orK (lv m))) {f : FuncId} {l : List Arg} {K : Res → Option Ω} {next : Option Ω} {r : Ω} (h : orielref12_Size_o (lv n) f l K next = some r) : (∃ R, call Try.prog kp n f l = some R ∧ K R = some r) ∨ next = some r := by
  refine rowO_ok (cl := call Try.prog kp n) (ea := orielref12_Size_e) (dr := orielref12_Size_d) (fun _ _ h => orielref12_Size_ae h) (fun _ _ h => orielref12_Size_dr h) (fun a v h => ?_) h
  cases n with
  | zero => cases h
  | succ n =>
    rw [orielref12_Size_lv] at h
    exact bodyK_ok (ih n rfl) h
theorem orielref12_size_lv (n : Nat) : (lv (n + 1)).orielref12_size = orielref12_size_b (lv n) n := by kernel_rfl
theorem orielref12_size_up (x0_0 : Int) (x0_1 : List (List C)) (x0_2 : List (List C)) (x1 : Int) {Q : Int → Prop} (h : Tot (fun n _ _ => orielref12_size_b (lv n) n x0_0 x0_1 x0_2 x1) Q) : Tot (fun n _ _ => (lv n).orielref12_size x0_0 x0_1 x0_2 x1) Q := Tot.up (fun n => by rw [orielref12_size_lv]) h
theorem orielref12_size_ok {Ω : Type} (n : Nat) (ih : ∀ m, n = m + 1 → ∀ {Ω : Type}, TabOK (Ω := Ω) (call Try.prog kp m) (orK (lv m))) {f : FuncId} {l : List Arg} {K : Res → Option Ω} {next : Option Ω} {r : Ω} (h : orielref12_size_o (lv n) f l K next = some r) : (∃ R, call Try.prog kp n f l = some R ∧ K R = some r) ∨ next = some r := by
  refine rowO_ok (cl := call Try.prog kp n) (ea := orielref12_size_e) (dr := orielref12_size_d) (fun _ _ h => orielref12_size_ae h) (fun _ _ h => orielref12_size_dr h) (fun a v h => ?_) h
  cases n with
  | zero => cases h
  | succ n =>
    rw [orielref12_size_lv] at h
    exact bodyK_ok (ih n rfl) h
theorem orielref12_sizeFilter_lv (n : Nat) : (lv (n + 1)).orielref12_sizeFilter = orielref12_sizeFilter_b (lv n) n := by kernel_rfl
theorem orielref12_sizeFilter_up (x0_0 : Int) (x0_1 : ByteArray) (x0_2 : ByteArray) (x0_3 : ByteArray) (x0_4 : List (List C)) (x0_5 : List (List C)) (x1 : Int) {Q : Int → Prop} (h : Tot (fun n _ _ => orielref12_sizeFilter_b (lv n) n x0_0 x0_1 x0_2 x0_3 x0_4 x0_5 x1) Q) : Tot (fun n _ _ => (lv n).orielref12_sizeFilter x0_0 x0_1 x0_2 x0_3 x0_4 x0_5 x1) Q := Tot.up (fun n => by rw [orielref12_sizeFilter_lv]) h
theorem orielref12_sizeFilter_ok {Ω : Type} (n : Nat) (ih : ∀ m, n = m + 1 → ∀ {Ω : Type}, TabOK (Ω := Ω) (call Try.prog kp m) (orK (lv m))) {f : FuncId} {l : List Arg} {K : Res → Option Ω} {next : Option Ω} {r : Ω} (h : orielref12_sizeFilter_o (lv n) f l K next = some r) : (∃ R, call Try.prog kp n f l = some R ∧ K R = some r) ∨ next = some r := by
  refine rowO_ok (cl := call Try.prog kp n) (ea := orielref12_sizeFilter_e) (dr := orielref12_sizeFilter_d) (fun _ _ h => orielref12_sizeFilter_ae h) (fun _ _ h => orielref12_sizeFilter_dr h) (fun a v h => ?_) h
  cases n with
  | zero => cases h
  | succ n =>
    rw [orielref12_sizeFilter_lv] at h
    exact bodyK_ok (ih n rfl) h
theorem prog_Moves_lv (n : Nat) : (lv (n + 1)).prog_Moves = prog_Moves_b (lv n) n := by kernel_rfl
theorem prog_Moves_up (x0_0 : Int) (x0_1 : Int) (x0_2 : Int) (x0_3 : List (List C)) (x0_4 : List (List C)) (x1 : List (List C)) (x2 : Int) {Q : (List (List C)) → Prop} (h : Tot (fun n _ _ => prog_Moves_b (lv n) n x0_0 x0_1 x0_2 x0_3 x0_4 x1 x2) Q) : Tot (fun n _ _ => (lv n).prog_Moves x0_0 x0_1 x0_2 x0_3 x0_4 x1 x2) Q := Tot.up (fun n => by rw [prog_Moves_lv]) h
theorem prog_Moves_ok {Ω : Type} (n : Nat) (ih : ∀ m, n = m + 1 → ∀ {Ω : Type}, TabOK (Ω := Ω) (call Try.prog kp m) (orK (lv m))) {f : FuncId} {l : List Arg} {K : Res → Option Ω} {next : Option Ω} {r : Ω} (h : prog_Moves_o (lv n) f l K next = some r) : (∃ R, call Try.prog kp n f l = some R ∧ K R = some r) ∨ next = some r := by
  refine rowO_ok (cl := call Try.prog kp n) (ea := prog_Moves_e) (dr := prog_Moves_d) (fun _ _ h => prog_Moves_ae h) (fun _ _ h => prog_Moves_dr h) (fun a v h => ?_) h
  cases n with
  | zero => cases h
  | succ n =>
    rw [prog_Moves_lv] at h
    exact bodyK_ok (ih n rfl) h
theorem orielref12_path_lv (n : Nat) : (lv (n + 1)).orielref12_path = orielref12_path_b (lv n) n := by kernel_rfl
theorem orielref12_path_up (x0_0 : Int) (x0_1 : List (List C)) (x0_2 : List (List C)) (x1 : Int) {Q : Bool → Prop} (h : Tot (fun n _ _ => orielref12_path_b (lv n) n x0_0 x0_1 x0_2 x1) Q) : Tot (fun n _ _ => (lv n).orielref12_path x0_0 x0_1 x0_2 x1) Q := Tot.up (fun n => by rw [orielref12_path_lv]) h
theorem orielref12_path_ok {Ω : Type} (n : Nat) (ih : ∀ m, n = m + 1 → ∀ {Ω : Type}, TabOK (Ω := Ω) (call Try.prog kp m) (orK (lv m))) {f : FuncId} {l : List Arg} {K : Res → Option Ω} {next : Option Ω} {r : Ω} (h : orielref12_path_o (lv n) f l K next = some r) : (∃ R, call Try.prog kp n f l = some R ∧ K R = some r) ∨ next = some r := by
  refine rowO_ok (cl := call Try.prog kp n) (ea := orielref12_path_e) (dr := orielref12_path_d) (fun _ _ h => orielref12_path_ae h) (fun _ _ h => orielref12_path_dr h) (fun a v h => ?_) h
  cases n with
  | zero => cases h
  | succ n =>
    rw [orielref12_path_lv] at h
    exact bodyK_ok (ih n rfl) h
theorem orielref12_filter_lv (n : Nat) : (lv (n + 1)).orielref12_filter = orielref12_filter_b (lv n) n := by kernel_rfl
theorem orielref12_filter_up (x0_0 : Int) (x0_1 : ByteArray) (x0_2 : ByteArray) (x0_3 : ByteArray) (x0_4 : List (List C)) (x0_5 : List (List C)) (x1 : Int) {Q : Bool → Prop} (h : Tot (fun n _ _ => orielref12_filter_b (lv n) n x0_0 x0_1 x0_2 x0_3 x0_4 x0_5 x1) Q) : Tot (fun n _ _ => (lv n).orielref12_filter x0_0 x0_1 x0_2 x0_3 x0_4 x0_5 x1) Q := Tot.up (fun n => by rw [orielref12_filter_lv]) h
theorem orielref12_filter_ok {Ω : Type} (n : Nat) (ih : ∀ m, n = m + 1 → ∀ {Ω : Type}, TabOK (Ω := Ω) (call Try.prog kp m) (orK (lv m))) {f : FuncId} {l : List Arg} {K : Res → Option Ω} {next : Option Ω} {r : Ω} (h : orielref12_filter_o (lv n) f l K next = some r) : (∃ R, call Try.prog kp n f l = some R ∧ K R = some r) ∨ next = some r := by
  refine rowO_ok (cl := call Try.prog kp n) (ea := orielref12_filter_e) (dr := orielref12_filter_d) (fun _ _ h => orielref12_filter_ae h) (fun _ _ h => orielref12_filter_dr h) (fun a v h => ?_) h
  cases n with
  | zero => cases h
  | succ n =>
    rw [orielref12_filter_lv] at h
    exact bodyK_ok (ih n rfl) h
theorem orielref12_named_lv (n : Nat) : (lv (n + 1)).orielref12_named = orielref12_named_b (lv n) n := by kernel_rfl
theorem orielref12_named_up (x0_0 : ByteArray) (x0_1 : ByteArray) {Q : Bool → Prop} (h : Tot (fun n _ _ => orielref12_named_b (lv n) n x0_0 x0_1) Q) : Tot (fun n _ _ => (lv n).orielref12_named x0_0 x0_1) Q := Tot.up (fun n => by rw [orielref12_named_lv]) h
theorem orielref12_named_ok {Ω : Type} (n : Nat) (ih : ∀ m, n = m + 1 → ∀ {Ω : Type}, TabOK (Ω := Ω) (call Try.prog kp m) (orK (lv m))) {f : FuncId} {l : List Arg} {K : Res → Option Ω} {next : Option Ω} {r : Ω} (h : orielref12_named_o (lv n) f l K next = some r) : (∃ R, call Try.prog kp n f l = some R ∧ K R = some r) ∨ next = some r := by
  refine rowO_ok (cl := call Try.prog kp n) (ea := orielref12_named_e) (dr := orielref12_named_d) (fun _ _ h => orielref12_named_ae h) (fun _ _ h => orielref12_named_dr h) (fun a v h => ?_) h
  cases n with
  | zero => cases h
  | succ n =>
    rw [orielref12_named_lv] at h
    exact bodyK_ok (ih n rfl) h
theorem orielref04_Right_lv (n : Nat) : (lv (n + 1)).orielref04_Right = orielref04_Right_b (lv n) n := by kernel_rfl
theorem orielref04_Right_up (x0 : ByteArray) {Q : Bool → Prop} (h : Tot (fun n _ _ => orielref04_Right_b (lv n) n x0) Q) : Tot (fun n _ _ => (lv n).orielref04_Right x0) Q := Tot.up (fun n => by rw [orielref04_Right_lv]) h
theorem orielref04_Right_ok {Ω : Type} (n : Nat) (ih : ∀ m, n = m + 1 → ∀ {Ω : Type}, TabOK (Ω := Ω) (call Try.prog kp m) (orK (lv m))) {f : FuncId} {l : List Arg} {K : Res → Option Ω} {next : Option Ω} {r : Ω} (h : orielref04_Right_o (lv n) f l K next = some r) : (∃ R, call Try.prog kp n f l = some R ∧ K R = some r) ∨ next = some r := by
  refine rowO_ok (cl := call Try.prog kp n) (ea := orielref04_Right_e) (dr := orielref04_Right_d) (fun _ _ h => orielref04_Right_ae h) (fun _ _ h => orielref04_Right_dr h) (fun a v h => ?_) h
  cases n with
  | zero => cases h
  | succ n =>
    rw [orielref04_Right_lv] at h
    exact bodyK_ok (ih n rfl) h
theorem orielref03_Plain_lv (n : Nat) : (lv (n + 1)).orielref03_Plain = orielref03_Plain_b (lv n) n := by kernel_rfl
theorem orielref03_Plain_up (x0 : ByteArray) {Q : Bool → Prop} (h : Tot (fun n _ _ => orielref03_Plain_b (lv n) n x0) Q) : Tot (fun n _ _ => (lv n).orielref03_Plain x0) Q := Tot.up (fun n => by rw [orielref03_Plain_lv]) h
theorem orielref03_Plain_ok {Ω : Type} (n : Nat) (ih : ∀ m, n = m + 1 → ∀ {Ω : Type}, TabOK (Ω := Ω) (call Try.prog kp m) (orK (lv m))) {f : FuncId} {l : List Arg} {K : Res → Option Ω} {next : Option Ω} {r : Ω} (h : orielref03_Plain_o (lv n) f l K next = some r) : (∃ R, call Try.prog kp n f l = some R ∧ K R = some r) ∨ next = some r := by
  refine rowO_ok (cl := call Try.prog kp n) (ea := orielref03_Plain_e) (dr := orielref03_Plain_d) (fun _ _ h => orielref03_Plain_ae h) (fun _ _ h => orielref03_Plain_dr h) (fun a v h => ?_) h
  cases n with
  | zero => cases h
  | succ n =>
    rw [orielref03_Plain_lv] at h
    exact bodyK_ok (ih n rfl) h
theorem orielref01_All_lv (n : Nat) : (lv (n + 1)).orielref01_All = orielref01_All_b (lv n) n := by kernel_rfl
theorem orielref01_All_up (x0 : ByteArray) {Q : ((List (List C)) × Int × Int) → Prop} (h : Tot (fun n _ _ => orielref01_All_b (lv n) n x0) Q) : Tot (fun n _ _ => (lv n).orielref01_All x0) Q := Tot.up (fun n => by rw [orielref01_All_lv]) h
theorem orielref01_All_ok {Ω : Type} (n : Nat) (ih : ∀ m, n = m + 1 → ∀ {Ω : Type}, TabOK (Ω := Ω) (call Try.prog kp m) (orK (lv m))) {f : FuncId} {l : List Arg} {K : Res → Option Ω} {next : Option Ω} {r : Ω} (h : orielref01_All_o (lv n) f l K next = some r) : (∃ R, call Try.prog kp n f l = some R ∧ K R = some r) ∨ next = some r := by
  refine rowO_ok (cl := call Try.prog kp n) (ea := orielref01_All_e) (dr := orielref01_All_d) (fun _ _ h => orielref01_All_ae h) (fun _ _ h => orielref01_All_dr h) (fun a v h => ?_) h
  cases n with
  | zero => cases h
  | succ n =>
    rw [orielref01_All_lv] at h
    exact bodyK_ok (ih n rfl) h
theorem orielref02_Start_lv (n : Nat) : (lv (n + 1)).orielref02_Start = orielref02_Start_b (lv n) n := by kernel_rfl
theorem orielref02_Start_up (x0 : Int) {Q : Bool → Prop} (h : Tot (fun n _ _ => orielref02_Start_b (lv n) n x0) Q) : Tot (fun n _ _ => (lv n).orielref02_Start x0) Q := Tot.up (fun n => by rw [orielref02_Start_lv]) h
theorem orielref02_Start_ok {Ω : Type} (n : Nat) (ih : ∀ m, n = m + 1 → ∀ {Ω : Type}, TabOK (Ω := Ω) (call Try.prog kp m) (orK (lv m))) {f : FuncId} {l : List Arg} {K : Res → Option Ω} {next : Option Ω} {r : Ω} (h : orielref02_Start_o (lv n) f l K next = some r) : (∃ R, call Try.prog kp n f l = some R ∧ K R = some r) ∨ next = some r := by
  refine rowO_ok (cl := call Try.prog kp n) (ea := orielref02_Start_e) (dr := orielref02_Start_d) (fun _ _ h => orielref02_Start_ae h) (fun _ _ h => orielref02_Start_dr h) (fun a v h => ?_) h
  cases n with
  | zero => cases h
  | succ n =>
    rw [orielref02_Start_lv] at h
    exact bodyK_ok (ih n rfl) h
theorem orielref01_Rune_lv (n : Nat) : (lv (n + 1)).orielref01_Rune = orielref01_Rune_b (lv n) n := by kernel_rfl
theorem orielref01_Rune_up (x0 : ByteArray) (x1 : Int) {Q : (Int × Int × Int) → Prop} (h : Tot (fun n _ _ => orielref01_Rune_b (lv n) n x0 x1) Q) : Tot (fun n _ _ => (lv n).orielref01_Rune x0 x1) Q := Tot.up (fun n => by rw [orielref01_Rune_lv]) h
theorem orielref01_Rune_ok {Ω : Type} (n : Nat) (ih : ∀ m, n = m + 1 → ∀ {Ω : Type}, TabOK (Ω := Ω) (call Try.prog kp m) (orK (lv m))) {f : FuncId} {l : List Arg} {K : Res → Option Ω} {next : Option Ω} {r : Ω} (h : orielref01_Rune_o (lv n) f l K next = some r) : (∃ R, call Try.prog kp n f l = some R ∧ K R = some r) ∨ next = some r := by
  refine rowO_ok (cl := call Try.prog kp n) (ea := orielref01_Rune_e) (dr := orielref01_Rune_d) (fun _ _ h => orielref01_Rune_ae h) (fun _ _ h => orielref01_Rune_dr h) (fun a v h => ?_) h
  cases n with
  | zero => cases h
  | succ n =>
    rw [orielref01_Rune_lv] at h
    exact bodyK_ok (ih n rfl) h
theorem orielref01_Put_lv (n : Nat) : (lv (n + 1)).orielref01_Put = orielref01_Put_b (lv n) n := by kernel_rfl
theorem orielref01_Put_up (x0 : Int) {Q : (List (List C)) → Prop} (h : Tot (fun n _ _ => orielref01_Put_b (lv n) n x0) Q) : Tot (fun n _ _ => (lv n).orielref01_Put x0) Q := Tot.up (fun n => by rw [orielref01_Put_lv]) h
theorem orielref01_Put_ok {Ω : Type} (n : Nat) (ih : ∀ m, n = m + 1 → ∀ {Ω : Type}, TabOK (Ω := Ω) (call Try.prog kp m) (orK (lv m))) {f : FuncId} {l : List Arg} {K : Res → Option Ω} {next : Option Ω} {r : Ω} (h : orielref01_Put_o (lv n) f l K next = some r) : (∃ R, call Try.prog kp n f l = some R ∧ K R = some r) ∨ next = some r := by
  refine rowO_ok (cl := call Try.prog kp n) (ea := orielref01_Put_e) (dr := orielref01_Put_d) (fun _ _ h => orielref01_Put_ae h) (fun _ _ h => orielref01_Put_dr h) (fun a v h => ?_) h
  cases n with
  | zero => cases h
  | succ n =>
    rw [orielref01_Put_lv] at h
    exact bodyK_ok (ih n rfl) h
theorem orielref01_cut_lv (n : Nat) : (lv (n + 1)).orielref01_cut = orielref01_cut_b (lv n) n := by kernel_rfl
theorem orielref01_cut_up (x0 : ByteArray) (x1 : Int) {Q : Bool → Prop} (h : Tot (fun n _ _ => orielref01_cut_b (lv n) n x0 x1) Q) : Tot (fun n _ _ => (lv n).orielref01_cut x0 x1) Q := Tot.up (fun n => by rw [orielref01_cut_lv]) h
theorem orielref01_cut_ok {Ω : Type} (n : Nat) (ih : ∀ m, n = m + 1 → ∀ {Ω : Type}, TabOK (Ω := Ω) (call Try.prog kp m) (orK (lv m))) {f : FuncId} {l : List Arg} {K : Res → Option Ω} {next : Option Ω} {r : Ω} (h : orielref01_cut_o (lv n) f l K next = some r) : (∃ R, call Try.prog kp n f l = some R ∧ K R = some r) ∨ next = some r := by
  refine rowO_ok (cl := call Try.prog kp n) (ea := orielref01_cut_e) (dr := orielref01_cut_d) (fun _ _ h => orielref01_cut_ae h) (fun _ _ h => orielref01_cut_dr h) (fun a v h => ?_) h
  cases n with
  | zero => cases h
  | succ n =>
    rw [orielref01_cut_lv] at h
    exact bodyK_ok (ih n rfl) h
theorem orielref01_value_lv (n : Nat) : (lv (n + 1)).orielref01_value = orielref01_value_b (lv n) n := by kernel_rfl
theorem orielref01_value_up (x0 : ByteArray) (x1 : Int) (x2 : Int) {Q : Int → Prop} (h : Tot (fun n _ _ => orielref01_value_b (lv n) n x0 x1 x2) Q) : Tot (fun n _ _ => (lv n).orielref01_value x0 x1 x2) Q := Tot.up (fun n => by rw [orielref01_value_lv]) h
theorem orielref01_value_ok {Ω : Type} (n : Nat) (ih : ∀ m, n = m + 1 → ∀ {Ω : Type}, TabOK (Ω := Ω) (call Try.prog kp m) (orK (lv m))) {f : FuncId} {l : List Arg} {K : Res → Option Ω} {next : Option Ω} {r : Ω} (h : orielref01_value_o (lv n) f l K next = some r) : (∃ R, call Try.prog kp n f l = some R ∧ K R = some r) ∨ next = some r := by
  refine rowO_ok (cl := call Try.prog kp n) (ea := orielref01_value_e) (dr := orielref01_value_d) (fun _ _ h => orielref01_value_ae h) (fun _ _ h => orielref01_value_dr h) (fun a v h => ?_) h
  cases n with
  | zero => cases h
  | succ n =>
    rw [orielref01_value_lv] at h
    exact bodyK_ok (ih n rfl) h
theorem orielref17_Compile_lv (n : Nat) : (lv (n + 1)).orielref17_Compile = orielref17_Compile_b (lv n) n := by kernel_rfl
theorem orielref17_Compile_up (x0_0 : Int) (x0_1 : List (List C)) (x0_2 : List (List C)) {Q : (Int × Int × Int × (List (List C)) × (List (List C))) → Prop} (h : Tot (fun n _ _ => orielref17_Compile_b (lv n) n x0_0 x0_1 x0_2) Q) : Tot (fun n _ _ => (lv n).orielref17_Compile x0_0 x0_1 x0_2) Q := Tot.up (fun n => by rw [orielref17_Compile_lv]) h
theorem orielref17_Compile_ok {Ω : Type} (n : Nat) (ih : ∀ m, n = m + 1 → ∀ {Ω : Type}, TabOK (Ω := Ω) (call Try.prog kp m) (orK (lv m))) {f : FuncId} {l : List Arg} {K : Res → Option Ω} {next : Option Ω} {r : Ω} (h : orielref17_Compile_o (lv n) f l K next = some r) : (∃ R, call Try.prog kp n f l = some R ∧ K R = some r) ∨ next = some r := by
  refine rowO_ok (cl := call Try.prog kp n) (ea := orielref17_Compile_e) (dr := orielref17_Compile_d) (fun _ _ h => orielref17_Compile_ae h) (fun _ _ h => orielref17_Compile_dr h) (fun a v h => ?_) h
  cases n with
  | zero => cases h
  | succ n =>
    rw [orielref17_Compile_lv] at h
    exact bodyK_ok (ih n rfl) h
theorem orielref02_Char_lv (n : Nat) : (lv (n + 1)).orielref02_Char = orielref02_Char_b (lv n) n := by kernel_rfl
theorem orielref02_Char_up (x0 : Int) {Q : Bool → Prop} (h : Tot (fun n _ _ => orielref02_Char_b (lv n) n x0) Q) : Tot (fun n _ _ => (lv n).orielref02_Char x0) Q := Tot.up (fun n => by rw [orielref02_Char_lv]) h
theorem orielref02_Char_ok {Ω : Type} (n : Nat) (ih : ∀ m, n = m + 1 → ∀ {Ω : Type}, TabOK (Ω := Ω) (call Try.prog kp m) (orK (lv m))) {f : FuncId} {l : List Arg} {K : Res → Option Ω} {next : Option Ω} {r : Ω} (h : orielref02_Char_o (lv n) f l K next = some r) : (∃ R, call Try.prog kp n f l = some R ∧ K R = some r) ∨ next = some r := by
  refine rowO_ok (cl := call Try.prog kp n) (ea := orielref02_Char_e) (dr := orielref02_Char_d) (fun _ _ h => orielref02_Char_ae h) (fun _ _ h => orielref02_Char_dr h) (fun a v h => ?_) h
  cases n with
  | zero => cases h
  | succ n =>
    rw [orielref02_Char_lv] at h
    exact bodyK_ok (ih n rfl) h
theorem orielref02_Part_lv (n : Nat) : (lv (n + 1)).orielref02_Part = orielref02_Part_b (lv n) n := by kernel_rfl
theorem orielref02_Part_up (x0 : Int) {Q : Bool → Prop} (h : Tot (fun n _ _ => orielref02_Part_b (lv n) n x0) Q) : Tot (fun n _ _ => (lv n).orielref02_Part x0) Q := Tot.up (fun n => by rw [orielref02_Part_lv]) h
theorem orielref02_Part_ok {Ω : Type} (n : Nat) (ih : ∀ m, n = m + 1 → ∀ {Ω : Type}, TabOK (Ω := Ω) (call Try.prog kp m) (orK (lv m))) {f : FuncId} {l : List Arg} {K : Res → Option Ω} {next : Option Ω} {r : Ω} (h : orielref02_Part_o (lv n) f l K next = some r) : (∃ R, call Try.prog kp n f l = some R ∧ K R = some r) ∨ next = some r := by
  refine rowO_ok (cl := call Try.prog kp n) (ea := orielref02_Part_e) (dr := orielref02_Part_d) (fun _ _ h => orielref02_Part_ae h) (fun _ _ h => orielref02_Part_dr h) (fun a v h => ?_) h
  cases n with
  | zero => cases h
  | succ n =>
    rw [orielref02_Part_lv] at h
    exact bodyK_ok (ih n rfl) h
theorem orielref01_begins_lv (n : Nat) : (lv (n + 1)).orielref01_begins = orielref01_begins_b (lv n) n := by kernel_rfl
theorem orielref01_begins_up (x0 : ByteArray) (x1 : Int) (x2 : List (List C)) {Q : Bool → Prop} (h : Tot (fun n _ _ => orielref01_begins_b (lv n) n x0 x1 x2) Q) : Tot (fun n _ _ => (lv n).orielref01_begins x0 x1 x2) Q := Tot.up (fun n => by rw [orielref01_begins_lv]) h
theorem orielref01_begins_ok {Ω : Type} (n : Nat) (ih : ∀ m, n = m + 1 → ∀ {Ω : Type}, TabOK (Ω := Ω) (call Try.prog kp m) (orK (lv m))) {f : FuncId} {l : List Arg} {K : Res → Option Ω} {next : Option Ω} {r : Ω} (h : orielref01_begins_o (lv n) f l K next = some r) : (∃ R, call Try.prog kp n f l = some R ∧ K R = some r) ∨ next = some r := by
  refine rowO_ok (cl := call Try.prog kp n) (ea := orielref01_begins_e) (dr := orielref01_begins_d) (fun _ _ h => orielref01_begins_ae h) (fun _ _ h => orielref01_begins_dr h) (fun a v h => ?_) h
  cases n with
  | zero => cases h
  | succ n =>
    rw [orielref01_begins_lv] at h
    exact bodyK_ok (ih n rfl) h
theorem orielref17_add_lv (n : Nat) : (lv (n + 1)).orielref17_add = orielref17_add_b (lv n) n := by kernel_rfl
theorem orielref17_add_up (x0_0 : Int) (x0_1 : Int) (x0_2 : Int) (x0_3 : List (List C)) (x0_4 : List (List C)) (x1_0 : Int) (x1_1 : List (List C)) (x1_2 : List (List C)) {Q : (Int × Int × Int × (List (List C)) × (List (List C)) × Int × Int) → Prop} (h : Tot (fun n _ _ => orielref17_add_b (lv n) n x0_0 x0_1 x0_2 x0_3 x0_4 x1_0 x1_1 x1_2) Q) : Tot (fun n _ _ => (lv n).orielref17_add x0_0 x0_1 x0_2 x0_3 x0_4 x1_0 x1_1 x1_2) Q := Tot.up (fun n => by rw [orielref17_add_lv]) h
theorem orielref17_add_ok {Ω : Type} (n : Nat) (ih : ∀ m, n = m + 1 → ∀ {Ω : Type}, TabOK (Ω := Ω) (call Try.prog kp m) (orK (lv m))) {f : FuncId} {l : List Arg} {K : Res → Option Ω} {next : Option Ω} {r : Ω} (h : orielref17_add_o (lv n) f l K next = some r) : (∃ R, call Try.prog kp n f l = some R ∧ K R = some r) ∨ next = some r := by
  refine rowO_ok (cl := call Try.prog kp n) (ea := orielref17_add_e) (dr := orielref17_add_d) (fun _ _ h => orielref17_add_ae h) (fun _ _ h => orielref17_add_dr h) (fun a v h => ?_) h
  cases n with
  | zero => cases h
  | succ n =>
    rw [orielref17_add_lv] at h
    exact bodyK_ok (ih n rfl) h
theorem orielref02_Blank_lv (n : Nat) : (lv (n + 1)).orielref02_Blank = orielref02_Blank_b (lv n) n := by kernel_rfl
theorem orielref02_Blank_up (x0 : Int) {Q : Bool → Prop} (h : Tot (fun n _ _ => orielref02_Blank_b (lv n) n x0) Q) : Tot (fun n _ _ => (lv n).orielref02_Blank x0) Q := Tot.up (fun n => by rw [orielref02_Blank_lv]) h
theorem orielref02_Blank_ok {Ω : Type} (n : Nat) (ih : ∀ m, n = m + 1 → ∀ {Ω : Type}, TabOK (Ω := Ω) (call Try.prog kp m) (orK (lv m))) {f : FuncId} {l : List Arg} {K : Res → Option Ω} {next : Option Ω} {r : Ω} (h : orielref02_Blank_o (lv n) f l K next = some r) : (∃ R, call Try.prog kp n f l = some R ∧ K R = some r) ∨ next = some r := by
  refine rowO_ok (cl := call Try.prog kp n) (ea := orielref02_Blank_e) (dr := orielref02_Blank_d) (fun _ _ h => orielref02_Blank_ae h) (fun _ _ h => orielref02_Blank_dr h) (fun a v h => ?_) h
  cases n with
  | zero => cases h
  | succ n =>
    rw [orielref02_Blank_lv] at h
    exact bodyK_ok (ih n rfl) h
theorem orielref17_edge_lv (n : Nat) : (lv (n + 1)).orielref17_edge = orielref17_edge_b (lv n) n := by kernel_rfl
theorem orielref17_edge_up (x0_0 : Int) (x0_1 : Int) (x0_2 : Int) (x0_3 : List (List C)) (x0_4 : List (List C)) (x1 : Int) (x2 : Int) (x3 : Int) (x4 : Int) {Q : (Int × Int × Int × (List (List C)) × (List (List C))) → Prop} (h : Tot (fun n _ _ => orielref17_edge_b (lv n) n x0_0 x0_1 x0_2 x0_3 x0_4 x1 x2 x3 x4) Q) : Tot (fun n _ _ => (lv n).orielref17_edge x0_0 x0_1 x0_2 x0_3 x0_4 x1 x2 x3 x4) Q := Tot.up (fun n => by rw [orielref17_edge_lv]) h
theorem orielref17_edge_ok {Ω : Type} (n : Nat) (ih : ∀ m, n = m + 1 → ∀ {Ω : Type}, TabOK (Ω := Ω) (call Try.prog kp m) (orK (lv m))) {f : FuncId} {l : List Arg} {K : Res → Option Ω} {next : Option Ω} {r : Ω} (h : orielref17_edge_o (lv n) f l K next = some r) : (∃ R, call Try.prog kp n f l = some R ∧ K R = some r) ∨ next = some r := by
  refine rowO_ok (cl := call Try.prog kp n) (ea := orielref17_edge_e) (dr := orielref17_edge_d) (fun _ _ h => orielref17_edge_ae h) (fun _ _ h => orielref17_edge_dr h) (fun a v h => ?_) h
  cases n with
  | zero => cases h
  | succ n =>
    rw [orielref17_edge_lv] at h
    exact bodyK_ok (ih n rfl) h
theorem orielref05_Find_lv (n : Nat) : (lv (n + 1)).orielref05_Find = orielref05_Find_b (lv n) n := by kernel_rfl
theorem orielref05_Find_up (x0 : ByteArray) (x1 : Int) (x2 : ByteArray) {Q : Int → Prop} (h : Tot (fun n _ _ => orielref05_Find_b (lv n) n x0 x1 x2) Q) : Tot (fun n _ _ => (lv n).orielref05_Find x0 x1 x2) Q := Tot.up (fun n => by rw [orielref05_Find_lv]) h
theorem orielref05_Find_ok {Ω : Type} (n : Nat) (ih : ∀ m, n = m + 1 → ∀ {Ω : Type}, TabOK (Ω := Ω) (call Try.prog kp m) (orK (lv m))) {f : FuncId} {l : List Arg} {K : Res → Option Ω} {next : Option Ω} {r : Ω} (h : orielref05_Find_o (lv n) f l K next = some r) : (∃ R, call Try.prog kp n f l = some R ∧ K R = some r) ∨ next = some r := by
  refine rowO_ok (cl := call Try.prog kp n) (ea := orielref05_Find_e) (dr := orielref05_Find_d) (fun _ _ h => orielref05_Find_ae h) (fun _ _ h => orielref05_Find_dr h) (fun a v h => ?_) h
  cases n with
  | zero => cases h
  | succ n =>
    rw [orielref05_Find_lv] at h
    exact bodyK_ok (ih n rfl) h
theorem orielref17_Same_lv (n : Nat) : (lv (n + 1)).orielref17_Same = orielref17_Same_b (lv n) n := by kernel_rfl
theorem orielref17_Same_up (x0_0 : Int) (x0_1 : Int) (x0_2 : Int) (x0_3 : List (List C)) (x0_4 : List (List C)) (x1_0 : Int) (x1_1 : Int) (x1_2 : Int) (x1_3 : List (List C)) (x1_4 : List (List C)) {Q : Bool → Prop} (h : Tot (fun n _ _ => orielref17_Same_b (lv n) n x0_0 x0_1 x0_2 x0_3 x0_4 x1_0 x1_1 x1_2 x1_3 x1_4) Q) : Tot (fun n _ _ => (lv n).orielref17_Same x0_0 x0_1 x0_2 x0_3 x0_4 x1_0 x1_1 x1_2 x1_3 x1_4) Q := Tot.up (fun n => by rw [orielref17_Same_lv]) h
theorem orielref17_Same_ok {Ω : Type} (n : Nat) (ih : ∀ m, n = m + 1 → ∀ {Ω : Type}, TabOK (Ω := Ω) (call Try.prog kp m) (orK (lv m))) {f : FuncId} {l : List Arg} {K : Res → Option Ω} {next : Option Ω} {r : Ω} (h : orielref17_Same_o (lv n) f l K next = some r) : (∃ R, call Try.prog kp n f l = some R ∧ K R = some r) ∨ next = some r := by
  refine rowO_ok (cl := call Try.prog kp n) (ea := orielref17_Same_e) (dr := orielref17_Same_d) (fun _ _ h => orielref17_Same_ae h) (fun _ _ h => orielref17_Same_dr h) (fun a v h => ?_) h
  cases n with
  | zero => cases h
  | succ n =>
    rw [orielref17_Same_lv] at h
    exact bodyK_ok (ih n rfl) h
theorem oriellaw17_bits_lv (n : Nat) : (lv (n + 1)).oriellaw17_bits = oriellaw17_bits_b (lv n) n := by kernel_rfl
theorem oriellaw17_bits_up (x0 : Int) (x1 : Int) {Q : (List (List C)) → Prop} (h : Tot (fun n _ _ => oriellaw17_bits_b (lv n) n x0 x1) Q) : Tot (fun n _ _ => (lv n).oriellaw17_bits x0 x1) Q := Tot.up (fun n => by rw [oriellaw17_bits_lv]) h
theorem oriellaw17_bits_ok {Ω : Type} (n : Nat) (ih : ∀ m, n = m + 1 → ∀ {Ω : Type}, TabOK (Ω := Ω) (call Try.prog kp m) (orK (lv m))) {f : FuncId} {l : List Arg} {K : Res → Option Ω} {next : Option Ω} {r : Ω} (h : oriellaw17_bits_o (lv n) f l K next = some r) : (∃ R, call Try.prog kp n f l = some R ∧ K R = some r) ∨ next = some r := by
  refine rowO_ok (cl := call Try.prog kp n) (ea := oriellaw17_bits_e) (dr := oriellaw17_bits_d) (fun _ _ h => oriellaw17_bits_ae h) (fun _ _ h => oriellaw17_bits_dr h) (fun a v h => ?_) h
  cases n with
  | zero => cases h
  | succ n =>
    rw [oriellaw17_bits_lv] at h
    exact bodyK_ok (ih n rfl) h
theorem orielref12_SameFilter_lv (n : Nat) : (lv (n + 1)).orielref12_SameFilter = orielref12_SameFilter_b (lv n) n := by kernel_rfl
theorem orielref12_SameFilter_up (x0_0 : Int) (x0_1 : ByteArray) (x0_2 : ByteArray) (x0_3 : ByteArray) (x0_4 : List (List C)) (x0_5 : List (List C)) (x1_0 : Int) (x1_1 : ByteArray) (x1_2 : ByteArray) (x1_3 : ByteArray) (x1_4 : List (List C)) (x1_5 : List (List C)) {Q : Bool → Prop} (h : Tot (fun n _ _ => orielref12_SameFilter_b (lv n) n x0_0 x0_1 x0_2 x0_3 x0_4 x0_5 x1_0 x1_1 x1_2 x1_3 x1_4 x1_5) Q) : Tot (fun n _ _ => (lv n).orielref12_SameFilter x0_0 x0_1 x0_2 x0_3 x0_4 x0_5 x1_0 x1_1 x1_2 x1_3 x1_4 x1_5) Q := Tot.up (fun n => by rw [orielref12_SameFilter_lv]) h
theorem orielref12_SameFilter_ok {Ω : Type} (n : Nat) (ih : ∀ m, n = m + 1 → ∀ {Ω : Type}, TabOK (Ω := Ω) (call Try.prog kp m) (orK (lv m))) {f : FuncId} {l : List Arg} {K : Res → Option Ω} {next : Option Ω} {r : Ω} (h : orielref12_SameFilter_o (lv n) f l K next = some r) : (∃ R, call Try.prog kp n f l = some R ∧ K R = some r) ∨ next = some r := by
  refine rowO_ok (cl := call Try.prog kp n) (ea := orielref12_SameFilter_e) (dr := orielref12_SameFilter_d) (fun _ _ h => orielref12_SameFilter_ae h) (fun _ _ h => orielref12_SameFilter_dr h) (fun a v h => ?_) h
  cases n with
  | zero => cases h
  | succ n =>
    rw [orielref12_SameFilter_lv] at h
    exact bodyK_ok (ih n rfl) h
theorem orielref12_Same_lv (n : Nat) : (lv (n + 1)).orielref12_Same = orielref12_Same_b (lv n) n := by kernel_rfl
theorem orielref12_Same_up (x0_0 : Int) (x0_1 : List (List C)) (x0_2 : List (List C)) (x1_0 : Int) (x1_1 : List (List C)) (x1_2 : List (List C)) {Q : Bool → Prop} (h : Tot (fun n _ _ => orielref12_Same_b (lv n) n x0_0 x0_1 x0_2 x1_0 x1_1 x1_2) Q) : Tot (fun n _ _ => (lv n).orielref12_Same x0_0 x0_1 x0_2 x1_0 x1_1 x1_2) Q := Tot.up (fun n => by rw [orielref12_Same_lv]) h
theorem orielref12_Same_ok {Ω : Type} (n : Nat) (ih : ∀ m, n = m + 1 → ∀ {Ω : Type}, TabOK (Ω := Ω) (call Try.prog kp m) (orK (lv m))) {f : FuncId} {l : List Arg} {K : Res → Option Ω} {next : Option Ω} {r : Ω} (h : orielref12_Same_o (lv n) f l K next = some r) : (∃ R, call Try.prog kp n f l = some R ∧ K R = some r) ∨ next = some r := by
  refine rowO_ok (cl := call Try.prog kp n) (ea := orielref12_Same_e) (dr := orielref12_Same_d) (fun _ _ h => orielref12_Same_ae h) (fun _ _ h => orielref12_Same_dr h) (fun a v h => ?_) h
  cases n with
  | zero => cases h
  | succ n =>
    rw [orielref12_Same_lv] at h
    exact bodyK_ok (ih n rfl) h
theorem orielref17_Closure_lv (n : Nat) : (lv (n + 1)).orielref17_Closure = orielref17_Closure_b (lv n) n := by kernel_rfl
theorem orielref17_Closure_up (x0_0 : Int) (x0_1 : Int) (x0_2 : Int) (x0_3 : List (List C)) (x0_4 : List (List C)) (x1 : List (List C)) (x2 : List (List C)) {Q : (List (List C)) → Prop} (h : Tot (fun n _ _ => orielref17_Closure_b (lv n) n x0_0 x0_1 x0_2 x0_3 x0_4 x1 x2) Q) : Tot (fun n _ _ => (lv n).orielref17_Closure x0_0 x0_1 x0_2 x0_3 x0_4 x1 x2) Q := Tot.up (fun n => by rw [orielref17_Closure_lv]) h
theorem orielref17_Closure_ok {Ω : Type} (n : Nat) (ih : ∀ m, n = m + 1 → ∀ {Ω : Type}, TabOK (Ω := Ω) (call Try.prog kp m) (orK (lv m))) {f : FuncId} {l : List Arg} {K : Res → Option Ω} {next : Option Ω} {r : Ω} (h : orielref17_Closure_o (lv n) f l K next = some r) : (∃ R, call Try.prog kp n f l = some R ∧ K R = some r) ∨ next = some r := by
  refine rowO_ok (cl := call Try.prog kp n) (ea := orielref17_Closure_e) (dr := orielref17_Closure_d) (fun _ _ h => orielref17_Closure_ae h) (fun _ _ h => orielref17_Closure_dr h) (fun a v h => ?_) h
  cases n with
  | zero => cases h
  | succ n =>
    rw [orielref17_Closure_lv] at h
    exact bodyK_ok (ih n rfl) h
theorem orielref17_Moves_lv (n : Nat) : (lv (n + 1)).orielref17_Moves = orielref17_Moves_b (lv n) n := by kernel_rfl
theorem orielref17_Moves_up (x0_0 : Int) (x0_1 : Int) (x0_2 : Int) (x0_3 : List (List C)) (x0_4 : List (List C)) (x1 : List (List C)) (x2 : Int) {Q : (List (List C)) → Prop} (h : Tot (fun n _ _ => orielref17_Moves_b (lv n) n x0_0 x0_1 x0_2 x0_3 x0_4 x1 x2) Q) : Tot (fun n _ _ => (lv n).orielref17_Moves x0_0 x0_1 x0_2 x0_3 x0_4 x1 x2) Q := Tot.up (fun n => by rw [orielref17_Moves_lv]) h
theorem orielref17_Moves_ok {Ω : Type} (n : Nat) (ih : ∀ m, n = m + 1 → ∀ {Ω : Type}, TabOK (Ω := Ω) (call Try.prog kp m) (orK (lv m))) {f : FuncId} {l : List Arg} {K : Res → Option Ω} {next : Option Ω} {r : Ω} (h : orielref17_Moves_o (lv n) f l K next = some r) : (∃ R, call Try.prog kp n f l = some R ∧ K R = some r) ∨ next = some r := by
  refine rowO_ok (cl := call Try.prog kp n) (ea := orielref17_Moves_e) (dr := orielref17_Moves_d) (fun _ _ h => orielref17_Moves_ae h) (fun _ _ h => orielref17_Moves_dr h) (fun a v h => ?_) h
  cases n with
  | zero => cases h
  | succ n =>
    rw [orielref17_Moves_lv] at h
    exact bodyK_ok (ih n rfl) h
theorem lv_ok : ∀ n, ∀ {Ω : Type}, TabOK (Ω := Ω) (call Try.prog kp n) (orK (lv n)) := by
  intro n
  induction n with
  | zero =>
    intro Ω f l K r h
    have ih : ∀ m, 0 = m + 1 → ∀ {Ω : Type}, TabOK (Ω := Ω) (call Try.prog kp m) (orK (lv m)) := fun m e => by cases e
    rcases oriellaw17_ProgCompiles_ok _ ih h with h | h
    · exact h
    rcases oriellaw17_ProgMoves_ok _ ih h with h | h
    · exact h
    rcases oriellaw17_ProgKeeps_ok _ ih h with h | h
    · exact h
    rcases oriellaw17_ProgShapes_ok _ ih h with h | h
    · exact h
    rcases oriellaw17_awake_ok _ ih h with h | h
    · exact h
    rcases prog_Compile_ok _ ih h with h | h
    · exact h
    rcases prog_maker_path_ok _ ih h with h | h
    · exact h
    rcases prog_maker_step_ok _ ih h with h | h
    · exact h
    rcases prog_maker_seq_ok _ ih h with h | h
    · exact h
    rcases prog_maker_alt_ok _ ih h with h | h
    · exact h
    rcases prog_maker_state_ok _ ih h with h | h
    · exact h
    rcases prog_maker_lay_ok _ ih h with h | h
    · exact h
    rcases prog_maker_free_ok _ ih h with h | h
    · exact h
    rcases prog_Closure_ok _ ih h with h | h
    · exact h
    rcases orielref12_Right_ok _ ih h with h | h
    · exact h
    rcases orielref17_SameBits_ok _ ih h with h | h
    · exact h
    rcases orielref12_Size_ok _ ih h with h | h
    · exact h
    rcases orielref12_size_ok _ ih h with h | h
    · exact h
    rcases orielref12_sizeFilter_ok _ ih h with h | h
    · exact h
    rcases prog_Moves_ok _ ih h with h | h
    · exact h
    rcases orielref12_path_ok _ ih h with h | h
    · exact h
    rcases orielref12_filter_ok _ ih h with h | h
    · exact h
    rcases orielref12_named_ok _ ih h with h | h
    · exact h
    rcases orielref04_Right_ok _ ih h with h | h
    · exact h
    rcases orielref03_Plain_ok _ ih h with h | h
    · exact h
    rcases orielref01_All_ok _ ih h with h | h
    · exact h
    rcases orielref02_Start_ok _ ih h with h | h
    · exact h
    rcases orielref01_Rune_ok _ ih h with h | h
    · exact h
    rcases orielref01_Put_ok _ ih h with h | h
    · exact h
    rcases orielref01_cut_ok _ ih h with h | h
    · exact h
    rcases orielref01_value_ok _ ih h with h | h
    · exact h
    rcases orielref17_Compile_ok _ ih h with h | h
    · exact h
    rcases orielref02_Char_ok _ ih h with h | h
    · exact h
    rcases orielref02_Part_ok _ ih h with h | h
    · exact h
    rcases orielref01_begins_ok _ ih h with h | h
    · exact h
    rcases orielref17_add_ok _ ih h with h | h
    · exact h
    rcases orielref02_Blank_ok _ ih h with h | h
    · exact h
    rcases orielref17_edge_ok _ ih h with h | h
    · exact h
    rcases orielref05_Find_ok _ ih h with h | h
    · exact h
    rcases orielref17_Same_ok _ ih h with h | h
    · exact h
    rcases oriellaw17_bits_ok _ ih h with h | h
    · exact h
    rcases orielref12_SameFilter_ok _ ih h with h | h
    · exact h
    rcases orielref12_Same_ok _ ih h with h | h
    · exact h
    rcases orielref17_Closure_ok _ ih h with h | h
    · exact h
    rcases orielref17_Moves_ok _ ih h with h | h
    · exact h
    cases h
  | succ n ih0 =>
    intro Ω f l K r h
    have ih : ∀ m, n + 1 = m + 1 → ∀ {Ω : Type}, TabOK (Ω := Ω) (call Try.prog kp m) (orK (lv m)) := fun m e => by cases e; exact ih0
    rcases oriellaw17_ProgCompiles_ok _ ih h with h | h
    · exact h
    rcases oriellaw17_ProgMoves_ok _ ih h with h | h
    · exact h
    rcases oriellaw17_ProgKeeps_ok _ ih h with h | h
    · exact h
    rcases oriellaw17_ProgShapes_ok _ ih h with h | h
    · exact h
    rcases oriellaw17_awake_ok _ ih h with h | h
    · exact h
    rcases prog_Compile_ok _ ih h with h | h
    · exact h
    rcases prog_maker_path_ok _ ih h with h | h
    · exact h
    rcases prog_maker_step_ok _ ih h with h | h
    · exact h
    rcases prog_maker_seq_ok _ ih h with h | h
    · exact h
    rcases prog_maker_alt_ok _ ih h with h | h
    · exact h
    rcases prog_maker_state_ok _ ih h with h | h
    · exact h
    rcases prog_maker_lay_ok _ ih h with h | h
    · exact h
    rcases prog_maker_free_ok _ ih h with h | h
    · exact h
    rcases prog_Closure_ok _ ih h with h | h
    · exact h
    rcases orielref12_Right_ok _ ih h with h | h
    · exact h
    rcases orielref17_SameBits_ok _ ih h with h | h
    · exact h
    rcases orielref12_Size_ok _ ih h with h | h
    · exact h
    rcases orielref12_size_ok _ ih h with h | h
    · exact h
    rcases orielref12_sizeFilter_ok _ ih h with h | h
    · exact h
    rcases prog_Moves_ok _ ih h with h | h
    · exact h
    rcases orielref12_path_ok _ ih h with h | h
    · exact h
    rcases orielref12_filter_ok _ ih h with h | h
    · exact h
    rcases orielref12_named_ok _ ih h with h | h
    · exact h
    rcases orielref04_Right_ok _ ih h with h | h
    · exact h
    rcases orielref03_Plain_ok _ ih h with h | h
    · exact h
    rcases orielref01_All_ok _ ih h with h | h
    · exact h
    rcases orielref02_Start_ok _ ih h with h | h
    · exact h
    rcases orielref01_Rune_ok _ ih h with h | h
    · exact h
    rcases orielref01_Put_ok _ ih h with h | h
    · exact h
    rcases orielref01_cut_ok _ ih h with h | h
    · exact h
    rcases orielref01_value_ok _ ih h with h | h
    · exact h
    rcases orielref17_Compile_ok _ ih h with h | h
    · exact h
    rcases orielref02_Char_ok _ ih h with h | h
    · exact h
    rcases orielref02_Part_ok _ ih h with h | h
    · exact h
    rcases orielref01_begins_ok _ ih h with h | h
    · exact h
    rcases orielref17_add_ok _ ih h with h | h
    · exact h
    rcases orielref02_Blank_ok _ ih h with h | h
    · exact h
    rcases orielref17_edge_ok _ ih h with h | h
    · exact h
    rcases orielref05_Find_ok _ ih h with h | h
    · exact h
    rcases orielref17_Same_ok _ ih h with h | h
    · exact h
    rcases oriellaw17_bits_ok _ ih h with h | h
    · exact h
    rcases orielref12_SameFilter_ok _ ih h with h | h
    · exact h
    rcases orielref12_Same_ok _ ih h with h | h
    · exact h
    rcases orielref17_Closure_ok _ ih h with h | h
    · exact h
    rcases orielref17_Moves_ok _ ih h with h | h
    · exact h
    cases h
end Go.Vm.T
