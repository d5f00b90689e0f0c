/- The functions, as the machine tells them: definitions. -/
import Derived.Test.YtmolhfmiihignaaDoorVmThree
import Derived.Test.YtmolhfmiihignaaDoorProg
import Derived.Test.YtmolhfmiihignaaDoorVmGiven
set_option linter.unusedVariables false
set_option maxHeartbeats 4000000
set_option maxRecDepth 100000
namespace Go.Vm.T
open Go Go.Vm Go.Proofs
noncomputable def kl : List (Nat × List (Nat × List Nat)) := [(4, [(8, [0, 5, 6, 7]), (19, [0, 8, 11])]), (6, [(10, [0, 8, 9])]), (7, [(2000004, [1, 27, 999999])]), (9, [(3, [0, 5, 6])]), (10, [(2, [1, 11]), (6, [1, 6, 7, 11, 15, 16, 17])]), (16, [(2, [0, 6])]), (20, [(4, [0, 1, 21, 22]), (9, [0, 1, 7, 8, 9, 10]), (2000006, [0, 1, 7, 8, 21, 22, 999999]), (2000012, [0, 1, 7, 8, 9, 10, 999999])]), (22, [(2, [0, 7, 8, 9])]), (28, [(3, [0, 2, 4, 5])]), (42, [(2, [0, 6])])]
noncomputable def kp := tabKeep2 kl
structure Lv where
  oriellaw13_LexBack : LL → Int → Option Bool
  oriellaw13_awake : Option Bool
  lex_All : ByteArray → Option (LL × Int × Int)
  utf_All : ByteArray → Option (LL × Int × Int)
  utf_Rune : ByteArray → Int → Option (Int × Int × Int)
  utf_forms : Option (Int × Int × Int × Int × Int × Int × Int × Int × Int × Int × Int × Int)
  lex_Right : Int → ByteArray → ByteArray → Int → Option Bool
  char_All : ByteArray → Option Bool
  utf_span : Int → Int → Option (Int × Int)
  lex_may : ByteArray → Option Bool
  char_Char : Int → Option Bool
  char_Blank : Int → Option Bool
  lex_Write : Int → ByteArray → ByteArray → Int → Option ByteArray
  lex_one : ByteArray → Option (Int × ByteArray × ByteArray × Int × Int)
  name_Split : ByteArray → Option (ByteArray × ByteArray × Bool)
  name_Plain : ByteArray → Option Bool
  char_in : Int → LL → Option Bool
  lex_clark : ByteArray → Option (Int × ByteArray × ByteArray × Int × Int)
  lex_quoted : ByteArray → Option (Int × ByteArray × ByteArray × Int × Int)
  strings_HasPrefix : ByteArray → ByteArray → Option Bool
  char_Start : Int → Option Bool
  lex_plain : ByteArray → Option ByteArray
  stringslite_HasPrefix : ByteArray → ByteArray → Option Bool
  char_Part : Int → Option Bool
  lex_word : ByteArray → Option (Int × ByteArray × ByteArray × Int × Int)
  strings_CutPrefix : ByteArray → ByteArray → Option (ByteArray × Bool)
  stringslite_CutPrefix : ByteArray → ByteArray → Option (ByteArray × Bool)
noncomputable def oriellaw13_LexBack_a : List Arg → Option (LL × Int)
  | [.v (.one (.c (.row 28 x0))), .v (.one (.c (.int .u8 x1)))] => some (x0, x1)
  | _ => none
noncomputable def oriellaw13_LexBack_e (a : LL × Int) : List Arg := [.v (.one (.c (C.row 28 a.1))), .v (.one (.c (C.int .u8 a.2)))]
theorem oriellaw13_LexBack_ae {l : List Arg} {a : LL × Int} (h : oriellaw13_LexBack_a l = some a) : l = oriellaw13_LexBack_e a := by
  unfold oriellaw13_LexBack_a at h
  split at h
  · cases h; rfl
  · cases h
noncomputable def oriellaw13_LexBack_d : Res → Option Bool
  | ⟨.one (.d (.bool y0)), []⟩ => some y0
  | _ => none
noncomputable def oriellaw13_LexBack_r (r : Bool) : Res := ⟨.one (.d (.bool r)), []⟩
theorem oriellaw13_LexBack_dr {R : Res} {r : Bool} (h : oriellaw13_LexBack_d R = some r) : R = oriellaw13_LexBack_r r := by
  unfold oriellaw13_LexBack_d at h
  split at h
  · cases h; rfl
  · cases h
noncomputable def oriellaw13_LexBack_o (L : Lv) {Ω : Type} (f : FuncId) (l : List Arg) (K : Res → Option Ω) (next : Option Ω) : Option Ω := rowO 4 oriellaw13_LexBack_a (fun a => L.oriellaw13_LexBack a.1 a.2) oriellaw13_LexBack_r f l K next
noncomputable def oriellaw13_awake_a : List Arg → Option Unit
  | [] => some ()
  | _ => none
noncomputable def oriellaw13_awake_e (a : Unit) : List Arg := []
theorem oriellaw13_awake_ae {l : List Arg} {a : Unit} (h : oriellaw13_awake_a l = some a) : l = oriellaw13_awake_e a := by
  unfold oriellaw13_awake_a at h
  split at h
  · cases h; rfl
  · cases h
noncomputable def oriellaw13_awake_d : Res → Option Bool
  | ⟨.one (.d (.bool y0)), []⟩ => some y0
  | _ => none
noncomputable def oriellaw13_awake_r (r : Bool) : Res := ⟨.one (.d (.bool r)), []⟩
theorem oriellaw13_awake_dr {R : Res} {r : Bool} (h : oriellaw13_awake_d R = some r) : R = oriellaw13_awake_r r := by
  unfold oriellaw13_awake_d at h
  split at h
  · cases h; rfl
  · cases h
noncomputable def oriellaw13_awake_o (L : Lv) {Ω : Type} (f : FuncId) (l : List Arg) (K : Res → Option Ω) (next : Option Ω) : Option Ω := rowO 5 oriellaw13_awake_a (fun a => L.oriellaw13_awake) oriellaw13_awake_r f l K next
noncomputable def lex_All_a : List Arg → Option ByteArray
  | [.v (.one (.c (.str x0)))] => some x0
  | _ => none
noncomputable def lex_All_e (a : ByteArray) : List Arg := [.v (.one (.c (C.str a)))]
theorem lex_All_ae {l : List Arg} {a : ByteArray} (h : lex_All_a l = some a) : l = lex_All_e a := by
  unfold lex_All_a at h
  split at h
  · cases h; rfl
  · cases h
noncomputable def lex_All_d : Res → Option (LL × Int × Int)
  | ⟨.tup [.one (.own 28 y0), .one (.d (.int .i64 y1)), .one (.d (.int .i64 y2))], []⟩ => some (y0, y1, y2)
  | _ => none
noncomputable def lex_All_r (r : LL × Int × Int) : Res := ⟨.tup [.one (.own 28 r.1), .one (.d (.int .i64 r.2.1)), .one (.d (.int .i64 r.2.2))], []⟩
theorem lex_All_dr {R : Res} {r : LL × Int × Int} (h : lex_All_d R = some r) : R = lex_All_r r := by
  unfold lex_All_d at h
  split at h
  · cases h; rfl
  · cases h
noncomputable def lex_All_o (L : Lv) {Ω : Type} (f : FuncId) (l : List Arg) (K : Res → Option Ω) (next : Option Ω) : Option Ω := rowO 6 lex_All_a (fun a => L.lex_All a) lex_All_r f l K next
noncomputable def utf_All_a : List Arg → Option ByteArray
  | [.v (.one (.c (.str x0)))] => some x0
  | _ => none
noncomputable def utf_All_e (a : ByteArray) : List Arg := [.v (.one (.c (C.str a)))]
theorem utf_All_ae {l : List Arg} {a : ByteArray} (h : utf_All_a l = some a) : l = utf_All_e a := by
  unfold utf_All_a at h
  split at h
  · cases h; rfl
  · cases h
noncomputable def utf_All_d : Res → Option (LL × Int × Int)
  | ⟨.tup [.one (.own 21 y0), .one (.d (.int .i64 y1)), .one (.d (.int .i64 y2))], []⟩ => some (y0, y1, y2)
  | _ => none
noncomputable def utf_All_r (r : LL × Int × Int) : Res := ⟨.tup [.one (.own 21 r.1), .one (.d (.int .i64 r.2.1)), .one (.d (.int .i64 r.2.2))], []⟩
theorem utf_All_dr {R : Res} {r : LL × Int × Int} (h : utf_All_d R = some r) : R = utf_All_r r := by
  unfold utf_All_d at h
  split at h
  · cases h; rfl
  · cases h
noncomputable def utf_All_o (L : Lv) {Ω : Type} (f : FuncId) (l : List Arg) (K : Res → Option Ω) (next : Option Ω) : Option Ω := rowO 9 utf_All_a (fun a => L.utf_All a) utf_All_r f l K next
noncomputable def utf_Rune_a : List Arg → Option (ByteArray × Int)
  | [.v (.one (.c (.str x0))), .v (.one (.c (.int .i64 x1)))] => some (x0, x1)
  | _ => none
noncomputable def utf_Rune_e (a : ByteArray × Int) : List Arg := [.v (.one (.c (C.str a.1))), .v (.one (.c (C.int .i64 a.2)))]
theorem utf_Rune_ae {l : List Arg} {a : ByteArray × Int} (h : utf_Rune_a l = some a) : l = utf_Rune_e a := by
  unfold utf_Rune_a at h
  split at h
  · cases h; rfl
  · cases h
noncomputable def utf_Rune_d : Res → Option (Int × Int × Int)
  | ⟨.tup [.one (.d (.int .i32 y0)), .one (.d (.int .i64 y1)), .one (.d (.int .i64 y2))], []⟩ => some (y0, y1, y2)
  | _ => none
noncomputable def utf_Rune_r (r : Int × Int × Int) : Res := ⟨.tup [.one (.d (.int .i32 r.1)), .one (.d (.int .i64 r.2.1)), .one (.d (.int .i64 r.2.2))], []⟩
theorem utf_Rune_dr {R : Res} {r : Int × Int × Int} (h : utf_Rune_d R = some r) : R = utf_Rune_r r := by
  unfold utf_Rune_d at h
  split at h
  · cases h; rfl
  · cases h
noncomputable def utf_Rune_o (L : Lv) {Ω : Type} (f : FuncId) (l : List Arg) (K : Res → Option Ω) (next : Option Ω) : Option Ω := rowO 20 utf_Rune_a (fun a => L.utf_Rune a.1 a.2) utf_Rune_r f l K next
noncomputable def utf_forms_a : List Arg → Option Unit
  | [] => some ()
  | _ => none
noncomputable def utf_forms_e (a : Unit) : List Arg := []
theorem utf_forms_ae {l : List Arg} {a : Unit} (h : utf_forms_a l = some a) : l = utf_forms_e a := by
  unfold utf_forms_a at h
  split at h
  · cases h; rfl
  · cases h
noncomputable def utf_forms_d : Res → Option (Int × Int × Int × Int × Int × Int × Int × Int × Int × Int × Int × Int)
  | ⟨.agg [.d (.int .u8 y0), .d (.int .u8 y1), .d (.int .i32 y2), .d (.int .u8 y3), .d (.int .u8 y4), .d (.int .i32 y5), .d (.int .u8 y6), .d (.int .u8 y7), .d (.int .i32 y8), .d (.int .u8 y9), .d (.int .u8 y10), .d (.int .i32 y11)], []⟩ => some (y0, y1, y2, y3, y4, y5, y6, y7, y8, y9, y10, y11)
  | _ => none
noncomputable def utf_forms_r (r : Int × Int × Int × Int × Int × Int × Int × Int × Int × Int × Int × Int) : Res := ⟨.agg [.d (.int .u8 r.1), .d (.int .u8 r.2.1), .d (.int .i32 r.2.2.1), .d (.int .u8 r.2.2.2.1), .d (.int .u8 r.2.2.2.2.1), .d (.int .i32 r.2.2.2.2.2.1), .d (.int .u8 r.2.2.2.2.2.2.1), .d (.int .u8 r.2.2.2.2.2.2.2.1), .d (.int .i32 r.2.2.2.2.2.2.2.2.1), .d (.int .u8 r.2.2.2.2.2.2.2.2.2.1), .d (.int .u8 r.2.2.2.2.2.2.2.2.2.2.1), .d (.int .i32 r.2.2.2.2.2.2.2.2.2.2.2)], []⟩
theorem utf_forms_dr {R : Res} {r : Int × Int × Int × Int × Int × Int × Int × Int × Int × Int × Int × Int} (h : utf_forms_d R = some r) : R = utf_forms_r r := by
  unfold utf_forms_d at h
  split at h
  · cases h; rfl
  · cases h
noncomputable def utf_forms_o (L : Lv) {Ω : Type} (f : FuncId) (l : List Arg) (K : Res → Option Ω) (next : Option Ω) : Option Ω := rowO 37 utf_forms_a (fun a => L.utf_forms) utf_forms_r f l K next
noncomputable def lex_Right_a : List Arg → Option (Int × ByteArray × ByteArray × Int)
  | [.v (.agg [.c (.int .i64 x0_0), .c (.str x0_1), .c (.str x0_2), .c (.int .i64 x0_3)])] => some (x0_0, x0_1, x0_2, x0_3)
  | _ => none
noncomputable def lex_Right_e (a : Int × ByteArray × ByteArray × Int) : List Arg := [.v (.agg [.c (C.int .i64 a.1), .c (C.str a.2.1), .c (C.str a.2.2.1), .c (C.int .i64 a.2.2.2)])]
theorem lex_Right_ae {l : List Arg} {a : Int × ByteArray × ByteArray × Int} (h : lex_Right_a l = some a) : l = lex_Right_e a := by
  unfold lex_Right_a at h
  split at h
  · cases h; rfl
  · cases h
noncomputable def lex_Right_d : Res → Option Bool
  | ⟨.one (.d (.bool y0)), []⟩ => some y0
  | _ => none
noncomputable def lex_Right_r (r : Bool) : Res := ⟨.one (.d (.bool r)), []⟩
theorem lex_Right_dr {R : Res} {r : Bool} (h : lex_Right_d R = some r) : R = lex_Right_r r := by
  unfold lex_Right_d at h
  split at h
  · cases h; rfl
  · cases h
noncomputable def lex_Right_o (L : Lv) {Ω : Type} (f : FuncId) (l : List Arg) (K : Res → Option Ω) (next : Option Ω) : Option Ω := rowO 7 lex_Right_a (fun a => L.lex_Right a.1 a.2.1 a.2.2.1 a.2.2.2) lex_Right_r f l K next
noncomputable def char_All_a : List Arg → Option ByteArray
  | [.v (.one (.c (.str x0))), .v (.one (.c (.row 37 [[C.fn (some 11)]])))] => some x0
  | _ => none
noncomputable def char_All_e (a : ByteArray) : List Arg := [.v (.one (.c (C.str a))), .v (.one (.c (C.row 37 [[C.fn (some 11)]])))]
theorem char_All_ae {l : List Arg} {a : ByteArray} (h : char_All_a l = some a) : l = char_All_e a := by
  unfold char_All_a at h
  split at h
  · cases h; rfl
  · cases h
noncomputable def char_All_d : Res → Option Bool
  | ⟨.one (.d (.bool y0)), []⟩ => some y0
  | _ => none
noncomputable def char_All_r (r : Bool) : Res := ⟨.one (.d (.bool r)), []⟩
theorem char_All_dr {R : Res} {r : Bool} (h : char_All_d R = some r) : R = char_All_r r := by
  unfold char_All_d at h
  split at h
  · cases h; rfl
  · cases h
noncomputable def char_All_o (L : Lv) {Ω : Type} (f : FuncId) (l : List Arg) (K : Res → Option Ω) (next : Option Ω) : Option Ω := rowO 10 char_All_a (fun a => L.char_All a) char_All_r f l K next
noncomputable def utf_span_a : List Arg → Option (Int × Int)
  | [.v (.one (.c (.int .i32 x0))), .v (.one (.c (.int .i64 x1)))] => some (x0, x1)
  | _ => none
noncomputable def utf_span_e (a : Int × Int) : List Arg := [.v (.one (.c (C.int .i32 a.1))), .v (.one (.c (C.int .i64 a.2)))]
theorem utf_span_ae {l : List Arg} {a : Int × Int} (h : utf_span_a l = some a) : l = utf_span_e a := by
  unfold utf_span_a at h
  split at h
  · cases h; rfl
  · cases h
noncomputable def utf_span_d : Res → Option (Int × Int)
  | ⟨.tup [.one (.d (.int .i32 y0)), .one (.d (.int .i32 y1))], []⟩ => some (y0, y1)
  | _ => none
noncomputable def utf_span_r (r : Int × Int) : Res := ⟨.tup [.one (.d (.int .i32 r.1)), .one (.d (.int .i32 r.2))], []⟩
theorem utf_span_dr {R : Res} {r : Int × Int} (h : utf_span_d R = some r) : R = utf_span_r r := by
  unfold utf_span_d at h
  split at h
  · cases h; rfl
  · cases h
noncomputable def utf_span_o (L : Lv) {Ω : Type} (f : FuncId) (l : List Arg) (K : Res → Option Ω) (next : Option Ω) : Option Ω := rowO 38 utf_span_a (fun a => L.utf_span a.1 a.2) utf_span_r f l K next
noncomputable def lex_may_a : List Arg → Option ByteArray
  | [.v (.one (.c (.str x0)))] => some x0
  | _ => none
noncomputable def lex_may_e (a : ByteArray) : List Arg := [.v (.one (.c (C.str a)))]
theorem lex_may_ae {l : List Arg} {a : ByteArray} (h : lex_may_a l = some a) : l = lex_may_e a := by
  unfold lex_may_a at h
  split at h
  · cases h; rfl
  · cases h
noncomputable def lex_may_d : Res → Option Bool
  | ⟨.one (.d (.bool y0)), []⟩ => some y0
  | _ => none
noncomputable def lex_may_r (r : Bool) : Res := ⟨.one (.d (.bool r)), []⟩
theorem lex_may_dr {R : Res} {r : Bool} (h : lex_may_d R = some r) : R = lex_may_r r := by
  unfold lex_may_d at h
  split at h
  · cases h; rfl
  · cases h
noncomputable def lex_may_o (L : Lv) {Ω : Type} (f : FuncId) (l : List Arg) (K : Res → Option Ω) (next : Option Ω) : Option Ω := rowO 14 lex_may_a (fun a => L.lex_may a) lex_may_r f l K next
noncomputable def char_Char_a : List Arg → Option Int
  | [.v (.one (.c (.int .i32 x0)))] => some x0
  | _ => none
noncomputable def char_Char_e (a : Int) : List Arg := [.v (.one (.c (C.int .i32 a)))]
theorem char_Char_ae {l : List Arg} {a : Int} (h : char_Char_a l = some a) : l = char_Char_e a := by
  unfold char_Char_a at h
  split at h
  · cases h; rfl
  · cases h
noncomputable def char_Char_d : Res → Option Bool
  | ⟨.one (.d (.bool y0)), []⟩ => some y0
  | _ => none
noncomputable def char_Char_r (r : Bool) : Res := ⟨.one (.d (.bool r)), []⟩
theorem char_Char_dr {R : Res} {r : Bool} (h : char_Char_d R = some r) : R = char_Char_r r := by
  unfold char_Char_d at h
  split at h
  · cases h; rfl
  · cases h
noncomputable def char_Char_o (L : Lv) {Ω : Type} (f : FuncId) (l : List Arg) (K : Res → Option Ω) (next : Option Ω) : Option Ω := rowO 11 char_Char_a (fun a => L.char_Char a) char_Char_r f l K next
noncomputable def char_Blank_a : List Arg → Option Int
  | [.v (.one (.c (.int .i32 x0)))] => some x0
  | _ => none
noncomputable def char_Blank_e (a : Int) : List Arg := [.v (.one (.c (C.int .i32 a)))]
theorem char_Blank_ae {l : List Arg} {a : Int} (h : char_Blank_a l = some a) : l = char_Blank_e a := by
  unfold char_Blank_a at h
  split at h
  · cases h; rfl
  · cases h
noncomputable def char_Blank_d : Res → Option Bool
  | ⟨.one (.d (.bool y0)), []⟩ => some y0
  | _ => none
noncomputable def char_Blank_r (r : Bool) : Res := ⟨.one (.d (.bool r)), []⟩
theorem char_Blank_dr {R : Res} {r : Bool} (h : char_Blank_d R = some r) : R = char_Blank_r r := by
  unfold char_Blank_d at h
  split at h
  · cases h; rfl
  · cases h
noncomputable def char_Blank_o (L : Lv) {Ω : Type} (f : FuncId) (l : List Arg) (K : Res → Option Ω) (next : Option Ω) : Option Ω := rowO 21 char_Blank_a (fun a => L.char_Blank a) char_Blank_r f l K next
noncomputable def lex_Write_a : List Arg → Option (Int × ByteArray × ByteArray × Int)
  | [.v (.agg [.c (.int .i64 x0_0), .c (.str x0_1), .c (.str x0_2), .c (.int .i64 x0_3)])] => some (x0_0, x0_1, x0_2, x0_3)
  | _ => none
noncomputable def lex_Write_e (a : Int × ByteArray × ByteArray × Int) : List Arg := [.v (.agg [.c (C.int .i64 a.1), .c (C.str a.2.1), .c (C.str a.2.2.1), .c (C.int .i64 a.2.2.2)])]
theorem lex_Write_ae {l : List Arg} {a : Int × ByteArray × ByteArray × Int} (h : lex_Write_a l = some a) : l = lex_Write_e a := by
  unfold lex_Write_a at h
  split at h
  · cases h; rfl
  · cases h
noncomputable def lex_Write_d : Res → Option ByteArray
  | ⟨.one (.d (.str y0)), []⟩ => some y0
  | _ => none
noncomputable def lex_Write_r (r : ByteArray) : Res := ⟨.one (.d (.str r)), []⟩
theorem lex_Write_dr {R : Res} {r : ByteArray} (h : lex_Write_d R = some r) : R = lex_Write_r r := by
  unfold lex_Write_d at h
  split at h
  · cases h; rfl
  · cases h
noncomputable def lex_Write_o (L : Lv) {Ω : Type} (f : FuncId) (l : List Arg) (K : Res → Option Ω) (next : Option Ω) : Option Ω := rowO 8 lex_Write_a (fun a => L.lex_Write a.1 a.2.1 a.2.2.1 a.2.2.2) lex_Write_r f l K next
noncomputable def strings_TrimLeft_a : List Arg → Option (ByteArray × ByteArray)
  | [.v (.one (.c (.str x0))), .v (.one (.c (.str x1)))] => some (x0, x1)
  | _ => none
noncomputable def strings_TrimLeft_e (a : ByteArray × ByteArray) : List Arg := [.v (.one (.c (C.str a.1))), .v (.one (.c (C.str a.2)))]
theorem strings_TrimLeft_ae {l : List Arg} {a : ByteArray × ByteArray} (h : strings_TrimLeft_a l = some a) : l = strings_TrimLeft_e a := by
  unfold strings_TrimLeft_a at h
  split at h
  · cases h; rfl
  · cases h
noncomputable def strings_TrimLeft_d : Res → Option ByteArray
  | ⟨.one (.d (.str y0)), []⟩ => some y0
  | _ => none
noncomputable def strings_TrimLeft_r (r : ByteArray) : Res := ⟨.one (.d (.str r)), []⟩
theorem strings_TrimLeft_dr {R : Res} {r : ByteArray} (h : strings_TrimLeft_d R = some r) : R = strings_TrimLeft_r r := by
  unfold strings_TrimLeft_d at h
  split at h
  · cases h; rfl
  · cases h
noncomputable def strings_TrimLeft_o (L : Lv) {Ω : Type} (f : FuncId) (l : List Arg) (K : Res → Option Ω) (next : Option Ω) : Option Ω := rowO 12 strings_TrimLeft_a (fun a => trimV a.1 a.2) strings_TrimLeft_r f l K next
noncomputable def lex_one_a : List Arg → Option ByteArray
  | [.v (.one (.c (.str x0)))] => some x0
  | _ => none
noncomputable def lex_one_e (a : ByteArray) : List Arg := [.v (.one (.c (C.str a)))]
theorem lex_one_ae {l : List Arg} {a : ByteArray} (h : lex_one_a l = some a) : l = lex_one_e a := by
  unfold lex_one_a at h
  split at h
  · cases h; rfl
  · cases h
noncomputable def lex_one_d : Res → Option (Int × ByteArray × ByteArray × Int × Int)
  | ⟨.tup [.agg [.d (.int .i64 y0), .d (.str y1), .d (.str y2), .d (.int .i64 y3)], .one (.d (.int .i64 y4))], []⟩ => some (y0, y1, y2, y3, y4)
  | _ => none
noncomputable def lex_one_r (r : Int × ByteArray × ByteArray × Int × Int) : Res := ⟨.tup [.agg [.d (.int .i64 r.1), .d (.str r.2.1), .d (.str r.2.2.1), .d (.int .i64 r.2.2.2.1)], .one (.d (.int .i64 r.2.2.2.2))], []⟩
theorem lex_one_dr {R : Res} {r : Int × ByteArray × ByteArray × Int × Int} (h : lex_one_d R = some r) : R = lex_one_r r := by
  unfold lex_one_d at h
  split at h
  · cases h; rfl
  · cases h
noncomputable def lex_one_o (L : Lv) {Ω : Type} (f : FuncId) (l : List Arg) (K : Res → Option Ω) (next : Option Ω) : Option Ω := rowO 13 lex_one_a (fun a => L.lex_one a) lex_one_r f l K next
noncomputable def name_Split_a : List Arg → Option ByteArray
  | [.v (.one (.c (.str x0)))] => some x0
  | _ => none
noncomputable def name_Split_e (a : ByteArray) : List Arg := [.v (.one (.c (C.str a)))]
theorem name_Split_ae {l : List Arg} {a : ByteArray} (h : name_Split_a l = some a) : l = name_Split_e a := by
  unfold name_Split_a at h
  split at h
  · cases h; rfl
  · cases h
noncomputable def name_Split_d : Res → Option (ByteArray × ByteArray × Bool)
  | ⟨.tup [.one (.d (.str y0)), .one (.d (.str y1)), .one (.d (.bool y2))], []⟩ => some (y0, y1, y2)
  | _ => none
noncomputable def name_Split_r (r : ByteArray × ByteArray × Bool) : Res := ⟨.tup [.one (.d (.str r.1)), .one (.d (.str r.2.1)), .one (.d (.bool r.2.2))], []⟩
theorem name_Split_dr {R : Res} {r : ByteArray × ByteArray × Bool} (h : name_Split_d R = some r) : R = name_Split_r r := by
  unfold name_Split_d at h
  split at h
  · cases h; rfl
  · cases h
noncomputable def name_Split_o (L : Lv) {Ω : Type} (f : FuncId) (l : List Arg) (K : Res → Option Ω) (next : Option Ω) : Option Ω := rowO 15 name_Split_a (fun a => L.name_Split a) name_Split_r f l K next
noncomputable def name_Plain_a : List Arg → Option ByteArray
  | [.v (.one (.c (.str x0)))] => some x0
  | _ => none
noncomputable def name_Plain_e (a : ByteArray) : List Arg := [.v (.one (.c (C.str a)))]
theorem name_Plain_ae {l : List Arg} {a : ByteArray} (h : name_Plain_a l = some a) : l = name_Plain_e a := by
  unfold name_Plain_a at h
  split at h
  · cases h; rfl
  · cases h
noncomputable def name_Plain_d : Res → Option Bool
  | ⟨.one (.d (.bool y0)), []⟩ => some y0
  | _ => none
noncomputable def name_Plain_r (r : Bool) : Res := ⟨.one (.d (.bool r)), []⟩
theorem name_Plain_dr {R : Res} {r : Bool} (h : name_Plain_d R = some r) : R = name_Plain_r r := by
  unfold name_Plain_d at h
  split at h
  · cases h; rfl
  · cases h
noncomputable def name_Plain_o (L : Lv) {Ω : Type} (f : FuncId) (l : List Arg) (K : Res → Option Ω) (next : Option Ω) : Option Ω := rowO 16 name_Plain_a (fun a => L.name_Plain a) name_Plain_r f l K next
noncomputable def strings_Contains_a : List Arg → Option (ByteArray × ByteArray)
  | [.v (.one (.c (.str x0))), .v (.one (.c (.str x1)))] => some (x0, x1)
  | _ => none
noncomputable def strings_Contains_e (a : ByteArray × ByteArray) : List Arg := [.v (.one (.c (C.str a.1))), .v (.one (.c (C.str a.2)))]
theorem strings_Contains_ae {l : List Arg} {a : ByteArray × ByteArray} (h : strings_Contains_a l = some a) : l = strings_Contains_e a := by
  unfold strings_Contains_a at h
  split at h
  · cases h; rfl
  · cases h
noncomputable def strings_Contains_d : Res → Option Bool
  | ⟨.one (.d (.bool y0)), []⟩ => some y0
  | _ => none
noncomputable def strings_Contains_r (r : Bool) : Res := ⟨.one (.d (.bool r)), []⟩
theorem strings_Contains_dr {R : Res} {r : Bool} (h : strings_Contains_d R = some r) : R = strings_Contains_r r := by
  unfold strings_Contains_d at h
  split at h
  · cases h; rfl
  · cases h
noncomputable def strings_Contains_o (L : Lv) {Ω : Type} (f : FuncId) (l : List Arg) (K : Res → Option Ω) (next : Option Ω) : Option Ω := rowO 18 strings_Contains_a (fun a => contV a.1 a.2) strings_Contains_r f l K next
noncomputable def char_in_a : List Arg → Option (Int × LL)
  | [.v (.one (.c (.int .i32 x0))), .v (.one (.c (.row 50 x1)))] => some (x0, x1)
  | _ => none
noncomputable def char_in_e (a : Int × LL) : List Arg := [.v (.one (.c (C.int .i32 a.1))), .v (.one (.c (C.row 50 a.2)))]
theorem char_in_ae {l : List Arg} {a : Int × LL} (h : char_in_a l = some a) : l = char_in_e a := by
  unfold char_in_a at h
  split at h
  · cases h; rfl
  · cases h
noncomputable def char_in_d : Res → Option Bool
  | ⟨.one (.d (.bool y0)), []⟩ => some y0
  | _ => none
noncomputable def char_in_r (r : Bool) : Res := ⟨.one (.d (.bool r)), []⟩
theorem char_in_dr {R : Res} {r : Bool} (h : char_in_d R = some r) : R = char_in_r r := by
  unfold char_in_d at h
  split at h
  · cases h; rfl
  · cases h
noncomputable def char_in_o (L : Lv) {Ω : Type} (f : FuncId) (l : List Arg) (K : Res → Option Ω) (next : Option Ω) : Option Ω := rowO 22 char_in_a (fun a => L.char_in a.1 a.2) char_in_r f l K next
noncomputable def strings_ReplaceAll_a : List Arg → Option (ByteArray × ByteArray × ByteArray)
  | [.v (.one (.c (.str x0))), .v (.one (.c (.str x1))), .v (.one (.c (.str x2)))] => some (x0, x1, x2)
  | _ => none
noncomputable def strings_ReplaceAll_e (a : ByteArray × ByteArray × ByteArray) : List Arg := [.v (.one (.c (C.str a.1))), .v (.one (.c (C.str a.2.1))), .v (.one (.c (C.str a.2.2)))]
theorem strings_ReplaceAll_ae {l : List Arg} {a : ByteArray × ByteArray × ByteArray} (h : strings_ReplaceAll_a l = some a) : l = strings_ReplaceAll_e a := by
  unfold strings_ReplaceAll_a at h
  split at h
  · cases h; rfl
  · cases h
noncomputable def strings_ReplaceAll_d : Res → Option ByteArray
  | ⟨.one (.d (.str y0)), []⟩ => some y0
  | _ => none
noncomputable def strings_ReplaceAll_r (r : ByteArray) : Res := ⟨.one (.d (.str r)), []⟩
theorem strings_ReplaceAll_dr {R : Res} {r : ByteArray} (h : strings_ReplaceAll_d R = some r) : R = strings_ReplaceAll_r r := by
  unfold strings_ReplaceAll_d at h
  split at h
  · cases h; rfl
  · cases h
noncomputable def strings_ReplaceAll_o (L : Lv) {Ω : Type} (f : FuncId) (l : List Arg) (K : Res → Option Ω) (next : Option Ω) : Option Ω := rowO 19 strings_ReplaceAll_a (fun a => replV a.1 a.2.1 a.2.2) strings_ReplaceAll_r f l K next
noncomputable def lex_clark_a : List Arg → Option ByteArray
  | [.v (.one (.c (.str x0)))] => some x0
  | _ => none
noncomputable def lex_clark_e (a : ByteArray) : List Arg := [.v (.one (.c (C.str a)))]
theorem lex_clark_ae {l : List Arg} {a : ByteArray} (h : lex_clark_a l = some a) : l = lex_clark_e a := by
  unfold lex_clark_a at h
  split at h
  · cases h; rfl
  · cases h
noncomputable def lex_clark_d : Res → Option (Int × ByteArray × ByteArray × Int × Int)
  | ⟨.tup [.agg [.d (.int .i64 y0), .d (.str y1), .d (.str y2), .d (.int .i64 y3)], .one (.d (.int .i64 y4))], []⟩ => some (y0, y1, y2, y3, y4)
  | _ => none
noncomputable def lex_clark_r (r : Int × ByteArray × ByteArray × Int × Int) : Res := ⟨.tup [.agg [.d (.int .i64 r.1), .d (.str r.2.1), .d (.str r.2.2.1), .d (.int .i64 r.2.2.2.1)], .one (.d (.int .i64 r.2.2.2.2))], []⟩
theorem lex_clark_dr {R : Res} {r : Int × ByteArray × ByteArray × Int × Int} (h : lex_clark_d R = some r) : R = lex_clark_r r := by
  unfold lex_clark_d at h
  split at h
  · cases h; rfl
  · cases h
noncomputable def lex_clark_o (L : Lv) {Ω : Type} (f : FuncId) (l : List Arg) (K : Res → Option Ω) (next : Option Ω) : Option Ω := rowO 27 lex_clark_a (fun a => L.lex_clark a) lex_clark_r f l K next
noncomputable def lex_quoted_a : List Arg → Option ByteArray
  | [.v (.one (.c (.str x0)))] => some x0
  | _ => none
noncomputable def lex_quoted_e (a : ByteArray) : List Arg := [.v (.one (.c (C.str a)))]
theorem lex_quoted_ae {l : List Arg} {a : ByteArray} (h : lex_quoted_a l = some a) : l = lex_quoted_e a := by
  unfold lex_quoted_a at h
  split at h
  · cases h; rfl
  · cases h
noncomputable def lex_quoted_d : Res → Option (Int × ByteArray × ByteArray × Int × Int)
  | ⟨.tup [.agg [.d (.int .i64 y0), .d (.str y1), .d (.str y2), .d (.int .i64 y3)], .one (.d (.int .i64 y4))], []⟩ => some (y0, y1, y2, y3, y4)
  | _ => none
noncomputable def lex_quoted_r (r : Int × ByteArray × ByteArray × Int × Int) : Res := ⟨.tup [.agg [.d (.int .i64 r.1), .d (.str r.2.1), .d (.str r.2.2.1), .d (.int .i64 r.2.2.2.1)], .one (.d (.int .i64 r.2.2.2.2))], []⟩
theorem lex_quoted_dr {R : Res} {r : Int × ByteArray × ByteArray × Int × Int} (h : lex_quoted_d R = some r) : R = lex_quoted_r r := by
  unfold lex_quoted_d at h
  split at h
  · cases h; rfl
  · cases h
noncomputable def lex_quoted_o (L : Lv) {Ω : Type} (f : FuncId) (l : List Arg) (K : Res → Option Ω) (next : Option Ω) : Option Ω := rowO 28 lex_quoted_a (fun a => L.lex_quoted a) lex_quoted_r f l K next
noncomputable def strings_HasPrefix_a : List Arg → Option (ByteArray × ByteArray)
  | [.v (.one (.c (.str x0))), .v (.one (.c (.str x1)))] => some (x0, x1)
  | _ => none
noncomputable def strings_HasPrefix_e (a : ByteArray × ByteArray) : List Arg := [.v (.one (.c (C.str a.1))), .v (.one (.c (C.str a.2)))]
theorem strings_HasPrefix_ae {l : List Arg} {a : ByteArray × ByteArray} (h : strings_HasPrefix_a l = some a) : l = strings_HasPrefix_e a := by
  unfold strings_HasPrefix_a at h
  split at h
  · cases h; rfl
  · cases h
noncomputable def strings_HasPrefix_d : Res → Option Bool
  | ⟨.one (.d (.bool y0)), []⟩ => some y0
  | _ => none
noncomputable def strings_HasPrefix_r (r : Bool) : Res := ⟨.one (.d (.bool r)), []⟩
theorem strings_HasPrefix_dr {R : Res} {r : Bool} (h : strings_HasPrefix_d R = some r) : R = strings_HasPrefix_r r := by
  unfold strings_HasPrefix_d at h
  split at h
  · cases h; rfl
  · cases h
noncomputable def strings_HasPrefix_o (L : Lv) {Ω : Type} (f : FuncId) (l : List Arg) (K : Res → Option Ω) (next : Option Ω) : Option Ω := rowO 29 strings_HasPrefix_a (fun a => L.strings_HasPrefix a.1 a.2) strings_HasPrefix_r f l K next
noncomputable def strings_Cut_a : List Arg → Option (ByteArray × ByteArray)
  | [.v (.one (.c (.str x0))), .v (.one (.c (.str x1)))] => some (x0, x1)
  | _ => none
noncomputable def strings_Cut_e (a : ByteArray × ByteArray) : List Arg := [.v (.one (.c (C.str a.1))), .v (.one (.c (C.str a.2)))]
theorem strings_Cut_ae {l : List Arg} {a : ByteArray × ByteArray} (h : strings_Cut_a l = some a) : l = strings_Cut_e a := by
  unfold strings_Cut_a at h
  split at h
  · cases h; rfl
  · cases h
noncomputable def strings_Cut_d : Res → Option (ByteArray × ByteArray × Bool)
  | ⟨.tup [.one (.d (.str y0)), .one (.d (.str y1)), .one (.d (.bool y2))], []⟩ => some (y0, y1, y2)
  | _ => none
noncomputable def strings_Cut_r (r : ByteArray × ByteArray × Bool) : Res := ⟨.tup [.one (.d (.str r.1)), .one (.d (.str r.2.1)), .one (.d (.bool r.2.2))], []⟩
theorem strings_Cut_dr {R : Res} {r : ByteArray × ByteArray × Bool} (h : strings_Cut_d R = some r) : R = strings_Cut_r r := by
  unfold strings_Cut_d at h
  split at h
  · cases h; rfl
  · cases h
noncomputable def strings_Cut_o (L : Lv) {Ω : Type} (f : FuncId) (l : List Arg) (K : Res → Option Ω) (next : Option Ω) : Option Ω := rowO 31 strings_Cut_a (fun a => cutV a.1 a.2) strings_Cut_r f l K next
noncomputable def char_Start_a : List Arg → Option Int
  | [.v (.one (.c (.int .i32 x0)))] => some x0
  | _ => none
noncomputable def char_Start_e (a : Int) : List Arg := [.v (.one (.c (C.int .i32 a)))]
theorem char_Start_ae {l : List Arg} {a : Int} (h : char_Start_a l = some a) : l = char_Start_e a := by
  unfold char_Start_a at h
  split at h
  · cases h; rfl
  · cases h
noncomputable def char_Start_d : Res → Option Bool
  | ⟨.one (.d (.bool y0)), []⟩ => some y0
  | _ => none
noncomputable def char_Start_r (r : Bool) : Res := ⟨.one (.d (.bool r)), []⟩
theorem char_Start_dr {R : Res} {r : Bool} (h : char_Start_d R = some r) : R = char_Start_r r := by
  unfold char_Start_d at h
  split at h
  · cases h; rfl
  · cases h
noncomputable def char_Start_o (L : Lv) {Ω : Type} (f : FuncId) (l : List Arg) (K : Res → Option Ω) (next : Option Ω) : Option Ω := rowO 32 char_Start_a (fun a => L.char_Start a) char_Start_r f l K next
noncomputable def lex_plain_a : List Arg → Option ByteArray
  | [.v (.one (.c (.str x0)))] => some x0
  | _ => none
noncomputable def lex_plain_e (a : ByteArray) : List Arg := [.v (.one (.c (C.str a)))]
theorem lex_plain_ae {l : List Arg} {a : ByteArray} (h : lex_plain_a l = some a) : l = lex_plain_e a := by
  unfold lex_plain_a at h
  split at h
  · cases h; rfl
  · cases h
noncomputable def lex_plain_d : Res → Option ByteArray
  | ⟨.one (.d (.str y0)), []⟩ => some y0
  | _ => none
noncomputable def lex_plain_r (r : ByteArray) : Res := ⟨.one (.d (.str r)), []⟩
theorem lex_plain_dr {R : Res} {r : ByteArray} (h : lex_plain_d R = some r) : R = lex_plain_r r := by
  unfold lex_plain_d at h
  split at h
  · cases h; rfl
  · cases h
noncomputable def lex_plain_o (L : Lv) {Ω : Type} (f : FuncId) (l : List Arg) (K : Res → Option Ω) (next : Option Ω) : Option Ω := rowO 42 lex_plain_a (fun a => L.lex_plain a) lex_plain_r f l K next
noncomputable def stringslite_HasPrefix_a : List Arg → Option (ByteArray × ByteArray)
  | [.v (.one (.c (.str x0))), .v (.one (.c (.str x1)))] => some (x0, x1)
  | _ => none
noncomputable def stringslite_HasPrefix_e (a : ByteArray × ByteArray) : List Arg := [.v (.one (.c (C.str a.1))), .v (.one (.c (C.str a.2)))]
theorem stringslite_HasPrefix_ae {l : List Arg} {a : ByteArray × ByteArray} (h : stringslite_HasPrefix_a l = some a) : l = stringslite_HasPrefix_e a := by
  unfold stringslite_HasPrefix_a at h
  split at h
  · cases h; rfl
  · cases h
noncomputable def stringslite_HasPrefix_d : Res → Option Bool
  | ⟨.one (.d (.bool y0)), []⟩ => some y0
  | _ => none
noncomputable def stringslite_HasPrefix_r (r : Bool) : Res := ⟨.one (.d (.bool r)), []⟩
theorem stringslite_HasPrefix_dr {R : Res} {r : Bool} (h : stringslite_HasPrefix_d R = some r) : R = stringslite_HasPrefix_r r := by
  unfold stringslite_HasPrefix_d at h
  split at h
  · cases h; rfl
  · cases h
noncomputable def stringslite_HasPrefix_o (L : Lv) {Ω : Type} (f : FuncId) (l : List Arg) (K : Res → Option Ω) (next : Option Ω) : Option Ω := rowO 43 stringslite_HasPrefix_a (fun a => L.stringslite_HasPrefix a.1 a.2) stringslite_HasPrefix_r f l K next
noncomputable def char_Part_a : List Arg → Option Int
  | [.v (.one (.c (.int .i32 x0)))] => some x0
  | _ => none
noncomputable def char_Part_e (a : Int) : List Arg := [.v (.one (.c (C.int .i32 a)))]
theorem char_Part_ae {l : List Arg} {a : Int} (h : char_Part_a l = some a) : l = char_Part_e a := by
  unfold char_Part_a at h
  split at h
  · cases h; rfl
  · cases h
noncomputable def char_Part_d : Res → Option Bool
  | ⟨.one (.d (.bool y0)), []⟩ => some y0
  | _ => none
noncomputable def char_Part_r (r : Bool) : Res := ⟨.one (.d (.bool r)), []⟩
theorem char_Part_dr {R : Res} {r : Bool} (h : char_Part_d R = some r) : R = char_Part_r r := by
  unfold char_Part_d at h
  split at h
  · cases h; rfl
  · cases h
noncomputable def char_Part_o (L : Lv) {Ω : Type} (f : FuncId) (l : List Arg) (K : Res → Option Ω) (next : Option Ω) : Option Ω := rowO 33 char_Part_a (fun a => L.char_Part a) char_Part_r f l K next
noncomputable def strings_ContainsAny_a : List Arg → Option (ByteArray × ByteArray)
  | [.v (.one (.c (.str x0))), .v (.one (.c (.str x1)))] => some (x0, x1)
  | _ => none
noncomputable def strings_ContainsAny_e (a : ByteArray × ByteArray) : List Arg := [.v (.one (.c (C.str a.1))), .v (.one (.c (C.str a.2)))]
theorem strings_ContainsAny_ae {l : List Arg} {a : ByteArray × ByteArray} (h : strings_ContainsAny_a l = some a) : l = strings_ContainsAny_e a := by
  unfold strings_ContainsAny_a at h
  split at h
  · cases h; rfl
  · cases h
noncomputable def strings_ContainsAny_d : Res → Option Bool
  | ⟨.one (.d (.bool y0)), []⟩ => some y0
  | _ => none
noncomputable def strings_ContainsAny_r (r : Bool) : Res := ⟨.one (.d (.bool r)), []⟩
theorem strings_ContainsAny_dr {R : Res} {r : Bool} (h : strings_ContainsAny_d R = some r) : R = strings_ContainsAny_r r := by
  unfold strings_ContainsAny_d at h
  split at h
  · cases h; rfl
  · cases h
noncomputable def strings_ContainsAny_o (L : Lv) {Ω : Type} (f : FuncId) (l : List Arg) (K : Res → Option Ω) (next : Option Ω) : Option Ω := rowO 17 strings_ContainsAny_a (fun a => anyV a.1 a.2) strings_ContainsAny_r f l K next
noncomputable def lex_word_a : List Arg → Option ByteArray
  | [.v (.one (.c (.str x0)))] => some x0
  | _ => none
noncomputable def lex_word_e (a : ByteArray) : List Arg := [.v (.one (.c (C.str a)))]
theorem lex_word_ae {l : List Arg} {a : ByteArray} (h : lex_word_a l = some a) : l = lex_word_e a := by
  unfold lex_word_a at h
  split at h
  · cases h; rfl
  · cases h
noncomputable def lex_word_d : Res → Option (Int × ByteArray × ByteArray × Int × Int)
  | ⟨.tup [.agg [.d (.int .i64 y0), .d (.str y1), .d (.str y2), .d (.int .i64 y3)], .one (.d (.int .i64 y4))], []⟩ => some (y0, y1, y2, y3, y4)
  | _ => none
noncomputable def lex_word_r (r : Int × ByteArray × ByteArray × Int × Int) : Res := ⟨.tup [.agg [.d (.int .i64 r.1), .d (.str r.2.1), .d (.str r.2.2.1), .d (.int .i64 r.2.2.2.1)], .one (.d (.int .i64 r.2.2.2.2))], []⟩
theorem lex_word_dr {R : Res} {r : Int × ByteArray × ByteArray × Int × Int} (h : lex_word_d R = some r) : R = lex_word_r r := by
  unfold lex_word_d at h
  split at h
  · cases h; rfl
  · cases h
noncomputable def lex_word_o (L : Lv) {Ω : Type} (f : FuncId) (l : List Arg) (K : Res → Option Ω) (next : Option Ω) : Option Ω := rowO 30 lex_word_a (fun a => L.lex_word a) lex_word_r f l K next
noncomputable def strings_CutPrefix_a : List Arg → Option (ByteArray × ByteArray)
  | [.v (.one (.c (.str x0))), .v (.one (.c (.str x1)))] => some (x0, x1)
  | _ => none
noncomputable def strings_CutPrefix_e (a : ByteArray × ByteArray) : List Arg := [.v (.one (.c (C.str a.1))), .v (.one (.c (C.str a.2)))]
theorem strings_CutPrefix_ae {l : List Arg} {a : ByteArray × ByteArray} (h : strings_CutPrefix_a l = some a) : l = strings_CutPrefix_e a := by
  unfold strings_CutPrefix_a at h
  split at h
  · cases h; rfl
  · cases h
noncomputable def strings_CutPrefix_d : Res → Option (ByteArray × Bool)
  | ⟨.tup [.one (.d (.str y0)), .one (.d (.bool y1))], []⟩ => some (y0, y1)
  | _ => none
noncomputable def strings_CutPrefix_r (r : ByteArray × Bool) : Res := ⟨.tup [.one (.d (.str r.1)), .one (.d (.bool r.2))], []⟩
theorem strings_CutPrefix_dr {R : Res} {r : ByteArray × Bool} (h : strings_CutPrefix_d R = some r) : R = strings_CutPrefix_r r := by
  unfold strings_CutPrefix_d at h
  split at h
  · cases h; rfl
  · cases h
noncomputable def strings_CutPrefix_o (L : Lv) {Ω : Type} (f : FuncId) (l : List Arg) (K : Res → Option Ω) (next : Option Ω) : Option Ω := rowO 44 strings_CutPrefix_a (fun a => L.strings_CutPrefix a.1 a.2) strings_CutPrefix_r f l K next
noncomputable def stringslite_CutPrefix_a : List Arg → Option (ByteArray × ByteArray)
  | [.v (.one (.c (.str x0))), .v (.one (.c (.str x1)))] => some (x0, x1)
  | _ => none
noncomputable def stringslite_CutPrefix_e (a : ByteArray × ByteArray) : List Arg := [.v (.one (.c (C.str a.1))), .v (.one (.c (C.str a.2)))]
theorem stringslite_CutPrefix_ae {l : List Arg} {a : ByteArray × ByteArray} (h : stringslite_CutPrefix_a l = some a) : l = stringslite_CutPrefix_e a := by
  unfold stringslite_CutPrefix_a at h
  split at h
  · cases h; rfl
  · cases h
noncomputable def stringslite_CutPrefix_d : Res → Option (ByteArray × Bool)
  | ⟨.tup [.one (.d (.str y0)), .one (.d (.bool y1))], []⟩ => some (y0, y1)
  | _ => none
noncomputable def stringslite_CutPrefix_r (r : ByteArray × Bool) : Res := ⟨.tup [.one (.d (.str r.1)), .one (.d (.bool r.2))], []⟩
theorem stringslite_CutPrefix_dr {R : Res} {r : ByteArray × Bool} (h : stringslite_CutPrefix_d R = some r) : R = stringslite_CutPrefix_r r := by
  unfold stringslite_CutPrefix_d at h
  split at h
  · cases h; rfl
  · cases h
noncomputable def stringslite_CutPrefix_o (L : Lv) {Ω : Type} (f : FuncId) (l : List Arg) (K : Res → Option Ω) (next : Option Ω) : Option Ω := rowO 54 stringslite_CutPrefix_a (fun a => L.stringslite_CutPrefix a.1 a.2) stringslite_CutPrefix_r f l K next
/-- functions of the library that are given -/
noncomputable def extG (f : FuncId) (l : List Arg) : Option Res := (rowO 12 strings_TrimLeft_a (fun a => trimV a.1 a.2) strings_TrimLeft_r f l some (rowO 18 strings_Contains_a (fun a => contV a.1 a.2) strings_Contains_r f l some (rowO 19 strings_ReplaceAll_a (fun a => replV a.1 a.2.1 a.2.2) strings_ReplaceAll_r f l some (rowO 31 strings_Cut_a (fun a => cutV a.1 a.2) strings_Cut_r f l some (rowO 17 strings_ContainsAny_a (fun a => anyV a.1 a.2) strings_ContainsAny_r f l some none)))))
theorem extG_ok (h0 : ∀ a v, (fun a => trimV a.1 a.2) a = some v → CallOK Tryd.prog 12 (strings_TrimLeft_e a) (strings_TrimLeft_r v)) (h1 : ∀ a v, (fun a => contV a.1 a.2) a = some v → CallOK Tryd.prog 18 (strings_Contains_e a) (strings_Contains_r v)) (h2 : ∀ a v, (fun a => replV a.1 a.2.1 a.2.2) a = some v → CallOK Tryd.prog 19 (strings_ReplaceAll_e a) (strings_ReplaceAll_r v)) (h3 : ∀ a v, (fun a => cutV a.1 a.2) a = some v → CallOK Tryd.prog 31 (strings_Cut_e a) (strings_Cut_r v)) (h4 : ∀ a v, (fun a => anyV a.1 a.2) a = some v → CallOK Tryd.prog 17 (strings_ContainsAny_e a) (strings_ContainsAny_r v)) : CallsOK Tryd.prog extG := fun f l R h => by
  unfold extG at h
  rcases rowG_ok (ea := strings_TrimLeft_e) (fun _ _ h => strings_TrimLeft_ae h) h0 h with h | h
  · exact h
  rcases rowG_ok (ea := strings_Contains_e) (fun _ _ h => strings_Contains_ae h) h1 h with h | h
  · exact h
  rcases rowG_ok (ea := strings_ReplaceAll_e) (fun _ _ h => strings_ReplaceAll_ae h) h2 h with h | h
  · exact h
  rcases rowG_ok (ea := strings_Cut_e) (fun _ _ h => strings_Cut_ae h) h3 h with h | h
  · exact h
  rcases rowG_ok (ea := strings_ContainsAny_e) (fun _ _ h => strings_ContainsAny_ae h) h4 h with h | h
  · exact h
  cases h
noncomputable def orK (L : Lv) {Ω : Type} (f : FuncId) (l : List Arg) (K : Res → Option Ω) : Option Ω := oriellaw13_LexBack_o L f l K (oriellaw13_awake_o L f l K (lex_All_o L f l K (utf_All_o L f l K (utf_Rune_o L f l K (utf_forms_o L f l K (lex_Right_o L f l K (char_All_o L f l K (utf_span_o L f l K (lex_may_o L f l K (char_Char_o L f l K (char_Blank_o L f l K (lex_Write_o L f l K (strings_TrimLeft_o L f l K (lex_one_o L f l K (name_Split_o L f l K (name_Plain_o L f l K (strings_Contains_o L f l K (char_in_o L f l K (strings_ReplaceAll_o L f l K (lex_clark_o L f l K (lex_quoted_o L f l K (strings_HasPrefix_o L f l K (strings_Cut_o L f l K (char_Start_o L f l K (lex_plain_o L f l K (stringslite_HasPrefix_o L f l K (char_Part_o L f l K (strings_ContainsAny_o L f l K (lex_word_o L f l K (strings_CutPrefix_o L f l K (stringslite_CutPrefix_o L f l K (none))))))))))))))))))))))))))))))))
noncomputable def oriellaw13_LexBack_b (L : Lv) (k : Nat) (x0 : LL) (x1 : Int) : Option Bool := bodyK noEq Tryd.prog (orK L) kp k 4 [.v (.one (.c (C.row 28 x0))), .v (.one (.c (C.int .u8 x1)))] oriellaw13_LexBack_d
noncomputable def oriellaw13_LexBack_l0 (L : Lv) (k : Nat) (x0 : LL) (x1 : Int) (m0 : Nat) (v1 v2 : ByteArray) (v3 : Int) : Option Bool := headK noEq Tryd.prog (orK L) kp k 4 [.v (.one (.c (C.row 28 x0))), .v (.one (.c (C.int .u8 x1)))] [1, 1, 1, 1, 1, 0, 1, 0] [m0] ⟨[(0, .one (.c (C.row 28 x0))), (5, .one (.c (C.str v1))), (6, .one (.c (C.str v2))), (7, .one (.c (C.int .i64 v3)))], [], 129, 143⟩ oriellaw13_LexBack_d
noncomputable def oriellaw13_LexBack_l1 (L : Lv) (k : Nat) (x0 : LL) (x1 : Int) (m0 : Nat) (v1 : Int) (v2 : LL) : Option Bool := headK noEq Tryd.prog (orK L) kp k 4 [.v (.one (.c (C.row 28 x0))), .v (.one (.c (C.int .u8 x1)))] [1, 1, 1, 1, 1, 1, 1, 1, 1, 0, 1, 0] [m0] ⟨[(0, .one (.c (C.row 28 x0))), (8, .one (.arr 128)), (11, .one (.c (C.int .i64 v1)))], [(128, .arr 28 false v2)], 130, 143⟩ oriellaw13_LexBack_d
noncomputable def oriellaw13_awake_b (L : Lv) (k : Nat) : Option Bool := bodyK noEq Tryd.prog (orK L) kp k 5 [] oriellaw13_awake_d
noncomputable def lex_All_b (L : Lv) (k : Nat) (x0 : ByteArray) : Option (LL × Int × Int) := bodyK noEq Tryd.prog (orK L) kp k 6 [.v (.one (.c (C.str x0)))] lex_All_d
noncomputable def lex_All_l0 (L : Lv) (k : Nat) (x0 : ByteArray) (m0 : Nat) : Option (LL × Int × Int) := headK noEq Tryd.prog (orK L) kp k 6 [.v (.one (.c (C.str x0)))] [1, 1, 1, 1, 1, 1, 0] [m0] ⟨[(0, .one (.c (C.str x0))), (8, .one (.c (C.nil 28))), (9, .one (.c (C.int .i64 0)))], [], 65, 65⟩ lex_All_d
noncomputable def lex_All_l1 (L : Lv) (k : Nat) (x0 : ByteArray) (m0 : Nat) (v1 : Int) (v2 : LL) : Option (LL × Int × Int) := headK noEq Tryd.prog (orK L) kp k 6 [.v (.one (.c (C.str x0)))] [1, 1, 1, 1, 1, 1, 0] [m0] ⟨[(0, .one (.c (C.str x0))), (8, .one (.arr 64)), (9, .one (.c (C.int .i64 v1)))], [(64, .arr 28 false v2)], 66, 65⟩ lex_All_d
noncomputable def utf_All_b (L : Lv) (k : Nat) (x0 : ByteArray) : Option (LL × Int × Int) := bodyK noEq Tryd.prog (orK L) kp k 9 [.v (.one (.c (C.str x0)))] utf_All_d
noncomputable def utf_All_l0 (L : Lv) (k : Nat) (x0 : ByteArray) (m0 : Nat) : Option (LL × Int × Int) := headK noEq Tryd.prog (orK L) kp k 9 [.v (.one (.c (C.str x0)))] [1, 1, 1, 0, 0] [m0] ⟨[(0, .one (.c (C.str x0))), (5, .one (.c (C.nil 21))), (6, .one (.c (C.int .i64 0)))], [], 65, 35⟩ utf_All_d
noncomputable def utf_All_l1 (L : Lv) (k : Nat) (x0 : ByteArray) (m0 : Nat) (v1 : Int) (v2 : LL) : Option (LL × Int × Int) := headK noEq Tryd.prog (orK L) kp k 9 [.v (.one (.c (C.str x0)))] [1, 1, 1, 0, 0] [m0] ⟨[(0, .one (.c (C.str x0))), (5, .one (.arr 64)), (6, .one (.c (C.int .i64 v1)))], [(64, .arr 21 false v2)], 66, 35⟩ utf_All_d
noncomputable def utf_Rune_b (L : Lv) (k : Nat) (x0 : ByteArray) (x1 : Int) : Option (Int × Int × Int) := bodyK noEq Tryd.prog (orK L) kp k 20 [.v (.one (.c (C.str x0))), .v (.one (.c (C.int .i64 x1)))] utf_Rune_d
noncomputable def utf_Rune_l0 (L : Lv) (k : Nat) (x0 : ByteArray) (x1 : Int) (m0 : Nat) (v2 v3 v4 v5 v6 v7 v8 v9 v10 v11 v12 v13 v14 : Int) : Option (Int × Int × Int) := headK noEq Tryd.prog (orK L) kp k 20 [.v (.one (.c (C.str x0))), .v (.one (.c (C.int .i64 x1)))] [1, 1, 0, 1, 0] [m0] ⟨[(0, .one (.c (C.str x0))), (1, .one (.c (C.int .i64 x1))), (21, .agg [.c (C.int .u8 v2), .c (C.int .u8 v3), .c (C.int .i32 v4), .c (C.int .u8 v5), .c (C.int .u8 v6), .c (C.int .i32 v7), .c (C.int .u8 v8), .c (C.int .u8 v9), .c (C.int .i32 v10), .c (C.int .u8 v11), .c (C.int .u8 v12), .c (C.int .i32 v13)]), (22, .one (.c (C.int .i64 v14)))], [], 129, 115⟩ utf_Rune_d
noncomputable def utf_Rune_l1 (L : Lv) (k : Nat) (x0 : ByteArray) (x1 : Int) (m0 : Nat) (v2 v3 v4 v5 v6 v7 v8 v9 v10 v11 v12 v13 v14 v15 v16 v17 v18 : Int) : Option (Int × Int × Int) := headK noEq Tryd.prog (orK L) kp k 20 [.v (.one (.c (C.str x0))), .v (.one (.c (C.int .i64 x1)))] [1, 1, 0, 1, 0, 0, 1, 1, 0, 0, 1, 0, 0] [m0] ⟨[(0, .one (.c (C.str x0))), (1, .one (.c (C.int .i64 x1))), (7, .one (.c (C.int .i64 v2))), (8, .one (.ptr 128 0)), (21, .agg [.c (C.int .u8 v3), .c (C.int .u8 v4), .c (C.int .i32 v5), .c (C.int .u8 v6), .c (C.int .u8 v7), .c (C.int .i32 v8), .c (C.int .u8 v9), .c (C.int .u8 v10), .c (C.int .i32 v11), .c (C.int .u8 v12), .c (C.int .u8 v13), .c (C.int .i32 v14)]), (22, .one (.c (C.int .i64 v15)))], [(128, .box 63 [.c (C.int .u8 v16), .c (C.int .u8 v17), .c (C.int .i32 v18)])], 130, 115⟩ utf_Rune_d
noncomputable def utf_Rune_l2 (L : Lv) (k : Nat) (x0 : ByteArray) (x1 : Int) (m0 m1 : Nat) (v2 v3 v4 v5 v6 v7 : Int) : Option (Int × Int × Int) := headK noEq Tryd.prog (orK L) kp k 20 [.v (.one (.c (C.str x0))), .v (.one (.c (C.int .i64 x1)))] [1, 1, 0, 1, 0, 0, 1, 1, 0, 0, 1, 1, 1, 1, 0, 0] [m0, m1] ⟨[(0, .one (.c (C.str x0))), (1, .one (.c (C.int .i64 x1))), (7, .one (.c (C.int .i64 v2))), (8, .one (.ptr 128 0)), (9, .one (.c (C.int .i32 v3))), (10, .one (.c (C.int .i64 v4)))], [(128, .box 63 [.c (C.int .u8 v5), .c (C.int .u8 v6), .c (C.int .i32 v7)])], 130, 115⟩ utf_Rune_d
noncomputable def utf_Rune_l3 (L : Lv) (k : Nat) (x0 : ByteArray) (x1 : Int) (m0 : Nat) (v2 v3 v4 v5 v6 v7 : Int) : Option (Int × Int × Int) := headK noEq Tryd.prog (orK L) kp k 20 [.v (.one (.c (C.str x0))), .v (.one (.c (C.int .i64 x1)))] [1, 1, 0, 1, 0, 0, 1, 1, 0, 0, 1, 1, 1, 1, 1, 0] [m0] ⟨[(0, .one (.c (C.str x0))), (1, .one (.c (C.int .i64 x1))), (7, .one (.c (C.int .i64 v2))), (8, .one (.ptr 128 0)), (9, .one (.c (C.int .i32 v3))), (10, .one (.c (C.int .i64 v4)))], [(128, .box 63 [.c (C.int .u8 v5), .c (C.int .u8 v6), .c (C.int .i32 v7)])], 130, 115⟩ utf_Rune_d
noncomputable def utf_forms_b (L : Lv) (k : Nat) : Option (Int × Int × Int × Int × Int × Int × Int × Int × Int × Int × Int × Int) := bodyK noEq Tryd.prog (orK L) kp k 37 [] utf_forms_d
noncomputable def lex_Right_b (L : Lv) (k : Nat) (x0_0 : Int) (x0_1 x0_2 : ByteArray) (x0_3 : Int) : Option Bool := bodyK noEq Tryd.prog (orK L) kp k 7 [.v (.agg [.c (C.int .i64 x0_0), .c (C.str x0_1), .c (C.str x0_2), .c (C.int .i64 x0_3)])] lex_Right_d
noncomputable def lex_Right_l0 (L : Lv) (k : Nat) (x0_0 : Int) (x0_1 x0_2 : ByteArray) (x0_3 : Int) : Option Bool := headK noEq Tryd.prog (orK L) kp k 7 [.v (.agg [.c (C.int .i64 x0_0), .c (C.str x0_1), .c (C.str x0_2), .c (C.int .i64 x0_3)])] [1, 1, 0, 1, 0, 0] [] ⟨[(1, .one (.ptr 64 0)), (27, .one (.c (C.int .i64 x0_0)))], [(64, .box 28 [.c (C.int .i64 x0_0), .c (C.str x0_1), .c (C.str x0_2), .c (C.int .i64 x0_3)])], 66, 75⟩ lex_Right_d
noncomputable def char_All_b (L : Lv) (k : Nat) (x0 : ByteArray) : Option Bool := bodyK noEq Tryd.prog (orK L) kp k 10 [.v (.one (.c (C.str x0))), .v (.one (.c (C.row 37 [[C.fn (some 11)]])))] char_All_d
noncomputable def char_All_l0 (L : Lv) (k : Nat) (x0 : ByteArray) (m0 v1 : Nat) : Option Bool := headK noEq Tryd.prog (orK L) kp k 10 [.v (.one (.c (C.str x0))), .v (.one (.c (C.row 37 [[C.fn (some 11)]])))] [1, 0, 1, 0] [m0] ⟨[(1, .one (.c (C.row 37 [[C.fn (some 11)]]))), (11, .itr 128)], [(128, .iter x0 v1)], 130, 30⟩ char_All_d
noncomputable def char_All_l1 (L : Lv) (k : Nat) (x0 : ByteArray) (m0 m1 : Nat) (v0 : Int) (v1 : Bool) (v3 : Int) (v5 : Nat) : Option Bool := headK noEq Tryd.prog (orK L) kp k 10 [.v (.one (.c (C.str x0))), .v (.one (.c (C.row 37 [[C.fn (some 11)]])))] [1, 0, 1, 0, 0, 1, 1, 0, 1, 1, 0, 1, 0] [m0, m1] ⟨[(1, .one (.c (C.row 37 [[C.fn (some 11)]]))), (6, .one (.c (C.int .i32 v0))), (7, .one (.c (C.bool v1))), (11, .itr 128), (15, .one (.c (C.row 37 [[C.fn (some 11)]]))), (16, .one (.c (C.int .i64 1))), (17, .one (.c (C.int .i64 v3)))], [(128, .iter x0 v5)], 130, 30⟩ char_All_d
noncomputable def utf_span_b (L : Lv) (k : Nat) (x0 x1 : Int) : Option (Int × Int) := bodyK noEq Tryd.prog (orK L) kp k 38 [.v (.one (.c (C.int .i32 x0))), .v (.one (.c (C.int .i64 x1)))] utf_span_d
noncomputable def lex_may_b (L : Lv) (k : Nat) (x0 : ByteArray) : Option Bool := bodyK noEq Tryd.prog (orK L) kp k 14 [.v (.one (.c (C.str x0)))] lex_may_d
noncomputable def char_Char_b (L : Lv) (k : Nat) (x0 : Int) : Option Bool := bodyK noEq Tryd.prog (orK L) kp k 11 [.v (.one (.c (C.int .i32 x0)))] char_Char_d
noncomputable def char_Blank_b (L : Lv) (k : Nat) (x0 : Int) : Option Bool := bodyK noEq Tryd.prog (orK L) kp k 21 [.v (.one (.c (C.int .i32 x0)))] char_Blank_d
noncomputable def lex_Write_b (L : Lv) (k : Nat) (x0_0 : Int) (x0_1 x0_2 : ByteArray) (x0_3 : Int) : Option ByteArray := bodyK noEq Tryd.prog (orK L) kp k 8 [.v (.agg [.c (C.int .i64 x0_0), .c (C.str x0_1), .c (C.str x0_2), .c (C.int .i64 x0_3)])] lex_Write_d
noncomputable def lex_one_b (L : Lv) (k : Nat) (x0 : ByteArray) : Option (Int × ByteArray × ByteArray × Int × Int) := bodyK noEq Tryd.prog (orK L) kp k 13 [.v (.one (.c (C.str x0)))] lex_one_d
noncomputable def name_Split_b (L : Lv) (k : Nat) (x0 : ByteArray) : Option (ByteArray × ByteArray × Bool) := bodyK noEq Tryd.prog (orK L) kp k 15 [.v (.one (.c (C.str x0)))] name_Split_d
noncomputable def name_Plain_b (L : Lv) (k : Nat) (x0 : ByteArray) : Option Bool := bodyK noEq Tryd.prog (orK L) kp k 16 [.v (.one (.c (C.str x0)))] name_Plain_d
noncomputable def name_Plain_l0 (L : Lv) (k : Nat) (x0 : ByteArray) (m0 v2 : Nat) : Option Bool := headK noEq Tryd.prog (orK L) kp k 16 [.v (.one (.c (C.str x0)))] [1, 0, 1, 0] [m0] ⟨[(0, .one (.c (C.str x0))), (6, .itr 64)], [(64, .iter x0 v2)], 66, 25⟩ name_Plain_d
noncomputable def char_in_b (L : Lv) (k : Nat) (x0 : Int) (x1 : LL) : Option Bool := bodyK noEq Tryd.prog (orK L) kp k 22 [.v (.one (.c (C.int .i32 x0))), .v (.one (.c (C.row 50 x1)))] char_in_d
noncomputable def char_in_l0 (L : Lv) (k : Nat) (x0 : Int) (x1 : LL) (m0 : Nat) (v3 : Int) : Option Bool := headK noEq Tryd.prog (orK L) kp k 22 [.v (.one (.c (C.int .i32 x0))), .v (.one (.c (C.row 50 x1)))] [1, 0, 1, 0] [m0] ⟨[(0, .one (.c (C.int .i32 x0))), (7, .one (.c (C.row 50 x1))), (8, .one (.c (C.int .i64 (x1.length : Int)))), (9, .one (.c (C.int .i64 v3)))], [], 129, 24⟩ char_in_d
noncomputable def lex_clark_b (L : Lv) (k : Nat) (x0 : ByteArray) : Option (Int × ByteArray × ByteArray × Int × Int) := bodyK noEq Tryd.prog (orK L) kp k 27 [.v (.one (.c (C.str x0)))] lex_clark_d
noncomputable def lex_quoted_b (L : Lv) (k : Nat) (x0 : ByteArray) : Option (Int × ByteArray × ByteArray × Int × Int) := bodyK noEq Tryd.prog (orK L) kp k 28 [.v (.one (.c (C.str x0)))] lex_quoted_d
noncomputable def lex_quoted_l0 (L : Lv) (k : Nat) (x0 : ByteArray) (m0 : Nat) (v1 : ByteArray) (v2 : Int) : Option (Int × ByteArray × ByteArray × Int × Int) := headK noEq Tryd.prog (orK L) kp k 28 [.v (.one (.c (C.str x0)))] [1, 1, 1, 0] [m0] ⟨[(0, .one (.c (C.str x0))), (2, .one (.ptr 64 0)), (4, .one (.c (C.str v1))), (5, .one (.c (C.int .i64 v2)))], [(64, .box 28 [.c (C.int .i64 0), .c (C.str (⟨#[]⟩ : ByteArray)), .c (C.str (⟨#[]⟩ : ByteArray)), .c (C.int .i64 0)])], 66, 40⟩ lex_quoted_d
noncomputable def strings_HasPrefix_b (L : Lv) (k : Nat) (x0 x1 : ByteArray) : Option Bool := bodyK noEq Tryd.prog (orK L) kp k 29 [.v (.one (.c (C.str x0))), .v (.one (.c (C.str x1)))] strings_HasPrefix_d
noncomputable def char_Start_b (L : Lv) (k : Nat) (x0 : Int) : Option Bool := bodyK noEq Tryd.prog (orK L) kp k 32 [.v (.one (.c (C.int .i32 x0)))] char_Start_d
noncomputable def lex_plain_b (L : Lv) (k : Nat) (x0 : ByteArray) : Option ByteArray := bodyK noEq Tryd.prog (orK L) kp k 42 [.v (.one (.c (C.str x0)))] lex_plain_d
noncomputable def lex_plain_l0 (L : Lv) (k : Nat) (x0 : ByteArray) (m0 v2 : Nat) : Option ByteArray := headK noEq Tryd.prog (orK L) kp k 42 [.v (.one (.c (C.str x0)))] [1, 0, 1, 0] [m0] ⟨[(0, .one (.c (C.str x0))), (6, .itr 64)], [(64, .iter x0 v2)], 66, 27⟩ lex_plain_d
noncomputable def stringslite_HasPrefix_b (L : Lv) (k : Nat) (x0 x1 : ByteArray) : Option Bool := bodyK noEq Tryd.prog (orK L) kp k 43 [.v (.one (.c (C.str x0))), .v (.one (.c (C.str x1)))] stringslite_HasPrefix_d
noncomputable def char_Part_b (L : Lv) (k : Nat) (x0 : Int) : Option Bool := bodyK noEq Tryd.prog (orK L) kp k 33 [.v (.one (.c (C.int .i32 x0)))] char_Part_d
noncomputable def lex_word_b (L : Lv) (k : Nat) (x0 : ByteArray) : Option (Int × ByteArray × ByteArray × Int × Int) := bodyK noEq Tryd.prog (orK L) kp k 30 [.v (.one (.c (C.str x0)))] lex_word_d
noncomputable def strings_CutPrefix_b (L : Lv) (k : Nat) (x0 x1 : ByteArray) : Option (ByteArray × Bool) := bodyK noEq Tryd.prog (orK L) kp k 44 [.v (.one (.c (C.str x0))), .v (.one (.c (C.str x1)))] strings_CutPrefix_d
noncomputable def stringslite_CutPrefix_b (L : Lv) (k : Nat) (x0 x1 : ByteArray) : Option (ByteArray × Bool) := bodyK noEq Tryd.prog (orK L) kp k 54 [.v (.one (.c (C.str x0))), .v (.one (.c (C.str x1)))] stringslite_CutPrefix_d
end Go.Vm.T
