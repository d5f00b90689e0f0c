/- The functions, as the machine tells them: definitions. -/
import Derived.Test.YtkdlhnmidbnpkaaVmThree
import Derived.Test.YtkdlhnmidbnpkaaProg
set_option linter.unusedVariables false
set_option maxHeartbeats 4000000
set_option maxRecDepth 100000
namespace Go.Vm.T
open Go Go.Vm Go.Proofs
noncomputable def kl : List (Nat × List (Nat × List Nat)) := [(4, [(9, [1, 5, 6, 7, 8])]), (11, [(5, [2, 3, 4, 5, 6])]), (13, [(3, [5, 8, 9, 22, 23])]), (14, [(3, [4, 5, 6, 7, 8, 9, 10]), (8, [4, 5, 6, 7, 8, 9, 10, 11, 12, 13]), (12, [4, 5, 6, 7, 8, 9, 10, 11, 12, 14]), (17, [4, 5, 6, 7, 8, 9, 10, 11, 12, 14, 15, 16, 17]), (2000018, [4, 5, 6, 7, 8, 9, 10, 11, 12, 14, 15, 16, 17, 999999])]), (15, [(3, [0, 3, 4]), (9, [0, 3, 4, 5])]), (16, [(7, [1, 2, 5, 6, 7, 8]), (2000018, [1, 2, 5, 6, 7, 8, 9, 10, 999999])]), (20, [(4, [6, 11, 12, 13]), (7, [6, 11, 12, 13, 29, 30, 31]), (2000010, [6, 11, 12, 13, 15, 16, 29, 30, 31, 999999])]), (25, [(7, [3, 4, 5, 6, 9, 10, 11]), (25, [5, 6, 14])]), (29, [(14, [1, 2, 7]), (2000011, [1, 2, 5, 6, 999999])]), (30, [(9, [1, 4]), (14, [1, 4, 5]), (2000002, [1, 3, 999999])]), (32, [(3, [1, 3, 4]), (7, [1, 3, 5])]), (33, [(2, [2, 3, 5])]), (34, [(3, [1, 3, 4])]), (35, [(3, [3, 7, 8, 9])]), (36, [(4, [0, 4, 5, 6, 7]), (7, [0, 4, 5, 6, 7, 51, 52, 53])]), (37, [(3, [1, 2, 3, 7, 8]), (7, [2, 3, 7, 9]), (10, [2, 3, 7, 9, 10])]), (40, [(5, [3, 9, 10, 11])]), (41, [(3, [0, 3, 4]), (2000007, [0, 3, 4, 999999]), (2000009, [0, 3, 4, 999999])]), (42, [(3, [0, 5, 6])]), (43, [(4, [9, 10, 19, 20, 21])]), (48, [(3, [1, 2, 5, 6]), (7, [1, 2, 5, 7])]), (49, [(20, [1, 2, 9]), (2000005, [1, 2, 5, 6, 999999]), (2000007, [1, 2, 6, 999999]), (2000014, [1, 2, 7, 8, 999999]), (2000017, [1, 2, 7, 8, 999999])]), (50, [(3, [3, 5, 6])]), (52, [(6, [3, 4, 6, 7, 8]), (15, [2, 3, 4, 5, 10, 11]), (23, [2, 4, 5, 10, 13, 14]), (2000039, [2, 3, 4, 5, 16, 17, 999999]), (1000000, [83])]), (53, [(3, [1, 3, 4])]), (54, [(4, [2, 3, 5]), (9, [2, 3, 6])]), (56, [(3, [0, 3, 6, 7, 8]), (2000008, [0, 3, 6, 7, 8, 48, 999999])]), (57, [(5, [3, 9, 10, 11])]), (64, [(3, [1, 2, 5, 6]), (7, [1, 2, 5, 7])]), (66, [(3, [0, 5, 6])]), (68, [(5, [3, 4])]), (70, [(4, [2, 3, 5]), (9, [2, 3, 6])]), (73, [(2, [0, 3, 12, 13, 14])]), (82, [(2, [0, 2, 7])]), (83, [(4, [0, 1, 7])]), (88, [(3, [0, 3, 7, 8, 9])]), (90, [(2, [0, 1, 7, 8])]), (91, [(2, [0, 1, 7, 8])]), (93, [(3, [0, 1, 2, 7, 8]), (2000010, [0, 1, 2, 7, 8, 9, 999999])]), (95, [(4, [0, 1, 2, 7])]), (96, [(5, [0, 1, 5, 6]), (10, [0, 1, 5, 6, 7, 8, 9]), (17, [0, 1, 5, 6, 7, 10, 11, 12, 13]), (23, [0, 1, 5, 6, 7, 10, 11, 15]), (2000021, [0, 1, 5, 6, 7, 10, 11, 12, 14, 999999])]), (97, [(2, [0, 6])]), (98, [(3, [0, 5, 6])]), (99, [(2, [1, 11]), (6, [1, 6, 7, 11, 15, 16, 17])]), (105, [(4, [0, 1, 21, 22]), (9, [0, 1, 7, 8, 9, 10]), (2000006, [0, 1, 7, 8, 21, 22, 999999]), (2000012, [0, 1, 7, 8, 9, 10, 999999])]), (107, [(2, [0, 7, 8, 9])]), (108, [(4, [1, 2, 15, 16, 17])]), (109, [(4, [1, 2, 15, 16, 17])])]
noncomputable def kp := Tq kl
structure Lv where
  Bn : Int → LL → LL → LL → Option Bool
  Dn : Option Bool
  Bj : Int → LL → LL → Option (LL × LL × LL × Int × Int × Int × LL × LL)
  Cs : Int → LL → LL → Option (Int × Int × Int × LL × LL)
  Ah : Int → Int → Int → LL → LL → Int → LL → LL → Option (Int × Int × Int × LL × LL × Int × Int)
  Cc : Int → Int → Int → LL → LL → Int → Int → Int → Int → Option (Int × Int × Int × LL × LL)
  Ar : Int → LL → LL → Option LL
  Bc : Int → BA → BA → BA → LL → LL → Option LL
  Bs : LL → LL → LL → Int → Int → Int → LL → LL → Int → LL → LL → Option Int
  Ba : Int → LL → LL → Int → LL → LL → Option Bool
  Bf : Int → BA → BA → BA → LL → LL → Int → BA → BA → BA → LL → LL → Option Bool
  Bu : LL → LL → LL → Int → Int → Int → LL → LL → Int → BA → BA → LL → BA → Bool → Bool → BA → Bool → Bool → BA → Option (Bool × Bool × BA)
  B4 : LL → LL → LL → Int → Int → Int → LL → LL → Option Int
  Ap : LL → LL → LL → Int → Int → Int → LL → LL → Int → BA → BA → LL → BA → Bool → Bool → BA → Bool → Bool → BA → LL → Int → Option (LL × LL × LL × Int × Int × Int × LL × LL × Int × BA × BA × LL × BA × Bool × Bool × BA × Bool × Bool × BA × LL)
  Bk : LL → LL → LL → Int → Int → Int → LL → LL → Int → Int → Int → LL → LL → Int → BA → BA → LL → BA → LL → Option LL
  Cy : LL → LL → LL → Int → Int → Int → LL → LL → Int → BA → BA → LL → BA → LL → Int → BA → BA → BA → LL → LL → Option (Bool × LL × LL × LL × Int × Int × Int × LL × LL × Int × BA × BA × LL × BA × LL)
  Bz : LL → LL → LL → Int → Int → Int → LL → LL → Int → BA → BA → LL → BA → LL → BA → BA → Option (BA × Bool × LL × LL × LL × Int × Int × Int × LL × LL × Int × BA × BA × LL × BA × LL)
  Cm : LL → LL → LL → LL → Int → Int → Int → LL → LL → Int → BA → BA → LL → BA → LL → Option Bool
  Cn : LL → LL → LL → LL → Int → Int → Int → LL → LL → Int → BA → BA → LL → BA → LL → Option Bool
  Co : LL → LL → LL → LL → Int → Int → Int → LL → LL → Int → BA → BA → LL → BA → LL → Option Bool
  B6 : LL → LL → LL → LL → Int → Int → Int → LL → LL → Int → BA → BA → LL → BA → LL → Option Int
  B7 : LL → LL → LL → LL → Int → Int → Int → LL → LL → Int → BA → BA → LL → BA → LL → Option Int
  B8 : LL → LL → LL → LL → Int → Int → Int → LL → LL → Int → BA → BA → LL → BA → LL → Option Int
  Dm : LL → LL → LL → Int → Int → Int → LL → LL → Int → BA → BA → LL → BA → LL → Int → BA → BA → BA → LL → LL → Option Bool
  Cz : LL → LL → LL → Int → Int → Int → LL → LL → Int → BA → BA → LL → BA → LL → Int → BA → BA → BA → LL → LL → Option Bool
  De : LL → LL → LL → Int → Int → Int → LL → LL → Int → BA → BA → LL → BA → LL → Int → LL → LL → Option Bool
  B0 : LL → LL → LL → Int → Int → Int → LL → LL → Int → BA → BA → LL → BA → LL → BA → BA → Option (BA × Bool)
  Dd : LL → LL → LL → Int → Int → Int → LL → LL → Int → LL → LL → Option Int
  B9 : LL → Int → LL → LL → Option Int
  Dl : Int → LL → LL → Int → LL → LL → Option Bool
  Cx : Int → LL → LL → Int → LL → LL → Option Bool
  Bx : LL → LL → Option Bool
  Au : LL → LL → LL → Int → Int → Int → LL → LL → LL → Option LL
  C4 : LL → LL → LL → Int → Int → Int → LL → LL → Int → BA → BA → LL → BA → Bool → Bool → BA → Bool → Bool → BA → LL → Int → Int → Int → Int → Int → LL → Option (Bool × LL × LL × LL × Int × Int × Int × LL × LL × Int × BA × BA × LL × BA × Bool × Bool × BA × Bool × Bool × BA × LL)
  Bw : LL → LL → Option Bool
  Di : LL → Option Bool
  C3 : Bool → Bool → BA → Int → Option Bool
  Dc : Int → BA → BA → BA → LL → LL → Int → BA → BA → BA → LL → LL → Option Bool
  A5 : LL → Option Bool
  Dh : Int → BA → BA → LL → BA → Option Bool
  C6 : BA → BA → Option Bool
  Cv : BA → Option Bool
  Br : BA → Option Bool
  Bl : BA → Option (LL × Int × Int)
  C1 : Int → Option Bool
  Ao : BA → Int → Option (Int × Int × Int)
  Bq : Int → LL → Option Bool
  Df : Option (Int × Int × Int × Int × Int × Int × Int × Int × Int × Int × Int × Int)
  Bh : LL → Option LL
  Bv : LL → Option Int
  Bd : BA → Option Bool
  Dg : Int → Int → Option (Int × Int)
  C8 : Int → Option Bool
  C7 : Int → Option Bool
  Cw : LL → LL → LL → Int → Int → Int → LL → LL → Int → Int → Int → LL → LL → Int → BA → BA → LL → BA → Bool → Bool → BA → LL → Option LL
  B5 : LL → Option Bool
  C0 : Int → Option Bool
  Da : Int → LL → LL → Option Bool
  Dk : Int → LL → LL → Option Int
  Bb : Int → LL → LL → Int → Option Int
  Bg : Int → BA → BA → BA → LL → LL → Int → Option Int
  A8 : Int → LL → LL → Int → Option Bool
  Aj : Int → BA → BA → BA → LL → LL → Int → Option Bool
  Db : BA → BA → Option Bool
  A9 : BA → Option Bool
  Bm : BA → Option Bool
  A6 : BA → Option (LL × Int × Int)
  Cj : Int → Option Bool
  A7 : BA → Int → Option (Int × Int × Int)
  Cb : Int → Option LL
  Ae : BA → Int → Option Bool
  An : BA → Int → Int → Option Int
  Be : LL → Option Bool
  Cq : Int → Option Bool
  Cr : Int → Option Bool
  Bi : BA → Int → LL → Option Bool
  Cp : Int → Option Bool
  C9 : LL → Option Bool
  By : BA → Int → BA → Option Int
  Az : LL → Option Int
  A4 : Int → BA → BA → LL → BA → Option Bool
  C5 : BA → BA → Option Bool
  Ct : LL → LL → LL → Int → Int → Int → LL → LL → LL → Int → Option (Bool × Bool × BA)
  Bp : LL → Int → Option Int
  Ad : LL → LL → LL → Int → Int → Int → LL → LL → Int → BA → BA → LL → BA → Bool → Bool → BA → Bool → Bool → BA → Option (Bool × Bool × BA)
  B3 : LL → LL → LL → Int → Int → Int → LL → LL → Option Int
  A0 : LL → LL → LL → Int → Int → Int → LL → LL → Int → BA → BA → BA → LL → LL → Int → BA → BA → LL → BA → LL → Option Bool
  Ax : Int → Int → Int → LL → LL → LL → LL → Option LL
  Cf : Bool → Bool → BA → Int → Option Bool
noncomputable def Bn_a : List Arg → Option (Int × LL × LL × LL)
  | [.v (.agg [.c (.int .i64 xb), .c (.row 25 xa), .c (.row 66 xc)]), .v (.one (.c (.row 30 x1)))] => some (xb, xa, xc, x1)
  | _ => none
noncomputable def Bn_e (a : Int × LL × LL × LL) : List Arg := [.v (.agg [.c (C.int .i64 a.1), .c (C.row 25 a.2.1), .c (C.row 66 a.2.2.1)]), .v (.one (.c (C.row 30 a.2.2.2)))]
theorem Bn_ae {l : List Arg} {a : Int × LL × LL × LL} (h : Bn_a l = some a) : l = Bn_e a := by
  unfold Bn_a at h; split at h <;> cases h <;> rfl
noncomputable def Bn_d : Res → Option Bool
  | ⟨.one (.d (.bool y0)), []⟩ => some y0
  | _ => none
noncomputable def Bn_r (r : Bool) : Res := ⟨.one (.d (.bool r)), []⟩
theorem Bn_dr {R : Res} {r : Bool} (h : Bn_d R = some r) : R = Bn_r r := by
  unfold Bn_d at h; split at h <;> cases h <;> rfl
noncomputable def Bn_o (L : Lv) {Ω : Type} (f : FuncId) (l : List Arg) (K : Res → Option Ω) (next : Option Ω) : Option Ω := At 4 Bn_a (fun a => L.Bn a.1 a.2.1 a.2.2.1 a.2.2.2) Bn_r f l K next
noncomputable def Dn_a : List Arg → Option Unit
  | [] => some ()
  | _ => none
noncomputable def Dn_e (a : Unit) : List Arg := []
theorem Dn_ae {l : List Arg} {a : Unit} (h : Dn_a l = some a) : l = Dn_e a := by
  unfold Dn_a at h; split at h <;> cases h <;> rfl
noncomputable def Dn_d : Res → Option Bool
  | ⟨.one (.d (.bool y0)), []⟩ => some y0
  | _ => none
noncomputable def Dn_r (r : Bool) : Res := ⟨.one (.d (.bool r)), []⟩
theorem Dn_dr {R : Res} {r : Bool} (h : Dn_d R = some r) : R = Dn_r r := by
  unfold Dn_d at h; split at h <;> cases h <;> rfl
noncomputable def Dn_o (L : Lv) {Ω : Type} (f : FuncId) (l : List Arg) (K : Res → Option Ω) (next : Option Ω) : Option Ω := At 8 Dn_a (fun a => L.Dn) Dn_r f l K next
noncomputable def Bj_a : List Arg → Option (Int × LL × LL)
  | [.v (.agg [.c (.int .i64 xb), .c (.row 25 xa), .c (.row 66 xc)])] => some (xb, xa, xc)
  | _ => none
noncomputable def Bj_e (a : Int × LL × LL) : List Arg := [.v (.agg [.c (C.int .i64 a.1), .c (C.row 25 a.2.1), .c (C.row 66 a.2.2)])]
theorem Bj_ae {l : List Arg} {a : Int × LL × LL} (h : Bj_a l = some a) : l = Bj_e a := by
  unfold Bj_a at h; split at h <;> cases h <;> rfl
noncomputable def Bj_d : Res → Option (LL × LL × LL × Int × Int × Int × LL × LL)
  | ⟨.agg [.own 25 y0, .own 39 y1, .own 3 y2, .d (.int .i64 y3), .d (.int .i64 y4), .d (.int .i64 y5), .d (.row 83 y6), .d (.row 66 y7)], []⟩ => some (y0, y1, y2, y3, y4, y5, y6, y7)
  | _ => none
noncomputable def Bj_r (r : LL × LL × LL × Int × Int × Int × LL × LL) : Res := ⟨.agg [.own 25 r.1, .own 39 r.2.1, .own 3 r.2.2.1, .d (.int .i64 r.2.2.2.1), .d (.int .i64 r.2.2.2.2.1), .d (.int .i64 r.2.2.2.2.2.1), .d (.row 83 r.2.2.2.2.2.2.1), .d (.row 66 r.2.2.2.2.2.2.2)], []⟩
theorem Bj_dr {R : Res} {r : LL × LL × LL × Int × Int × Int × LL × LL} (h : Bj_d R = some r) : R = Bj_r r := by
  unfold Bj_d at h; split at h <;> cases h <;> rfl
noncomputable def Bj_o (L : Lv) {Ω : Type} (f : FuncId) (l : List Arg) (K : Res → Option Ω) (next : Option Ω) : Option Ω := At 11 Bj_a (fun a => L.Bj a.1 a.2.1 a.2.2) Bj_r f l K next
noncomputable def Cs_a : List Arg → Option (Int × LL × LL)
  | [.v (.agg [.c (.int .i64 xb), .c (.row 25 xa), .c (.row 66 xc)])] => some (xb, xa, xc)
  | _ => none
noncomputable def Cs_e (a : Int × LL × LL) : List Arg := [.v (.agg [.c (C.int .i64 a.1), .c (C.row 25 a.2.1), .c (C.row 66 a.2.2)])]
theorem Cs_ae {l : List Arg} {a : Int × LL × LL} (h : Cs_a l = some a) : l = Cs_e a := by
  unfold Cs_a at h; split at h <;> cases h <;> rfl
noncomputable def Cs_d : Res → Option (Int × Int × Int × LL × LL)
  | ⟨.agg [.d (.int .i64 y0), .d (.int .i64 y1), .d (.int .i64 y2), .d (.row 83 y3), .d (.row 66 y4)], []⟩ => some (y0, y1, y2, y3, y4)
  | _ => none
noncomputable def Cs_r (r : Int × Int × Int × LL × LL) : Res := ⟨.agg [.d (.int .i64 r.1), .d (.int .i64 r.2.1), .d (.int .i64 r.2.2.1), .d (.row 83 r.2.2.2.1), .d (.row 66 r.2.2.2.2)], []⟩
theorem Cs_dr {R : Res} {r : Int × Int × Int × LL × LL} (h : Cs_d R = some r) : R = Cs_r r := by
  unfold Cs_d at h; split at h <;> cases h <;> rfl
noncomputable def Cs_o (L : Lv) {Ω : Type} (f : FuncId) (l : List Arg) (K : Res → Option Ω) (next : Option Ω) : Option Ω := At 31 Cs_a (fun a => L.Cs a.1 a.2.1 a.2.2) Cs_r f l K next
noncomputable def Ah_a : List Arg → Option (Int × Int × Int × LL × LL × Int × LL × LL)
  | [.v (.agg [.c (.int .i64 xb), .c (.int .i64 xa), .c (.int .i64 xc), .c (.row 83 xd), .c (.row 66 xe)]), .v (.agg [.c (.int .i64 xg), .c (.row 25 xh), .c (.row 66 xi)])] => some (xb, xa, xc, xd, xe, xg, xh, xi)
  | _ => none
noncomputable def Ah_e (a : Int × Int × Int × LL × LL × Int × LL × LL) : List Arg := [.v (.agg [.c (C.int .i64 a.1), .c (C.int .i64 a.2.1), .c (C.int .i64 a.2.2.1), .c (C.row 83 a.2.2.2.1), .c (C.row 66 a.2.2.2.2.1)]), .v (.agg [.c (C.int .i64 a.2.2.2.2.2.1), .c (C.row 25 a.2.2.2.2.2.2.1), .c (C.row 66 a.2.2.2.2.2.2.2)])]
theorem Ah_ae {l : List Arg} {a : Int × Int × Int × LL × LL × Int × LL × LL} (h : Ah_a l = some a) : l = Ah_e a := by
  unfold Ah_a at h; split at h <;> cases h <;> rfl
noncomputable def Ah_d : Res → Option (Int × Int × Int × LL × LL × Int × Int)
  | ⟨.agg [.d (.int .i64 y0), .d (.int .i64 y1), .d (.int .i64 y2), .d (.row 83 y3), .d (.row 66 y4), .d (.int .i64 y5), .d (.int .i64 y6)], []⟩ => some (y0, y1, y2, y3, y4, y5, y6)
  | _ => none
noncomputable def Ah_r (r : Int × Int × Int × LL × LL × Int × Int) : Res := ⟨.agg [.d (.int .i64 r.1), .d (.int .i64 r.2.1), .d (.int .i64 r.2.2.1), .d (.row 83 r.2.2.2.1), .d (.row 66 r.2.2.2.2.1), .d (.int .i64 r.2.2.2.2.2.1), .d (.int .i64 r.2.2.2.2.2.2)], []⟩
theorem Ah_dr {R : Res} {r : Int × Int × Int × LL × LL × Int × Int} (h : Ah_d R = some r) : R = Ah_r r := by
  unfold Ah_d at h; split at h <;> cases h <;> rfl
noncomputable def Ah_o (L : Lv) {Ω : Type} (f : FuncId) (l : List Arg) (K : Res → Option Ω) (next : Option Ω) : Option Ω := At 52 Ah_a (fun a => L.Ah a.1 a.2.1 a.2.2.1 a.2.2.2.1 a.2.2.2.2.1 a.2.2.2.2.2.1 a.2.2.2.2.2.2.1 a.2.2.2.2.2.2.2) Ah_r f l K next
noncomputable def Cc_a : List Arg → Option (Int × Int × Int × LL × LL × Int × Int × Int × Int)
  | [.v (.agg [.c (.int .i64 xb), .c (.int .i64 xa), .c (.int .i64 xc), .c (.row 83 xd), .c (.row 66 xe)]), .v (.one (.c (.int .i64 x1))), .v (.one (.c (.int .i64 x2))), .v (.one (.c (.int .i64 x3))), .v (.one (.c (.int .i64 x4)))] => some (xb, xa, xc, xd, xe, x1, x2, x3, x4)
  | _ => none
noncomputable def Cc_e (a : Int × Int × Int × LL × LL × Int × Int × Int × Int) : List Arg := [.v (.agg [.c (C.int .i64 a.1), .c (C.int .i64 a.2.1), .c (C.int .i64 a.2.2.1), .c (C.row 83 a.2.2.2.1), .c (C.row 66 a.2.2.2.2.1)]), .v (.one (.c (C.int .i64 a.2.2.2.2.2.1))), .v (.one (.c (C.int .i64 a.2.2.2.2.2.2.1))), .v (.one (.c (C.int .i64 a.2.2.2.2.2.2.2.1))), .v (.one (.c (C.int .i64 a.2.2.2.2.2.2.2.2)))]
theorem Cc_ae {l : List Arg} {a : Int × Int × Int × LL × LL × Int × Int × Int × Int} (h : Cc_a l = some a) : l = Cc_e a := by
  unfold Cc_a at h; split at h <;> cases h <;> rfl
noncomputable def Cc_d : Res → Option (Int × Int × Int × LL × LL)
  | ⟨.agg [.d (.int .i64 y0), .d (.int .i64 y1), .d (.int .i64 y2), .own 83 y3, .d (.row 66 y4)], []⟩ => some (y0, y1, y2, y3, y4)
  | _ => none
noncomputable def Cc_r (r : Int × Int × Int × LL × LL) : Res := ⟨.agg [.d (.int .i64 r.1), .d (.int .i64 r.2.1), .d (.int .i64 r.2.2.1), .own 83 r.2.2.2.1, .d (.row 66 r.2.2.2.2)], []⟩
theorem Cc_dr {R : Res} {r : Int × Int × Int × LL × LL} (h : Cc_d R = some r) : R = Cc_r r := by
  unfold Cc_d at h; split at h <;> cases h <;> rfl
noncomputable def Cc_o (L : Lv) {Ω : Type} (f : FuncId) (l : List Arg) (K : Res → Option Ω) (next : Option Ω) : Option Ω := At 69 Cc_a (fun a => L.Cc a.1 a.2.1 a.2.2.1 a.2.2.2.1 a.2.2.2.2.1 a.2.2.2.2.2.1 a.2.2.2.2.2.2.1 a.2.2.2.2.2.2.2.1 a.2.2.2.2.2.2.2.2) Cc_r f l K next
noncomputable def Ar_a : List Arg → Option (Int × LL × LL)
  | [.v (.agg [.c (.int .i64 xb), .c (.row 25 xa), .c (.row 66 xc)])] => some (xb, xa, xc)
  | _ => none
noncomputable def Ar_e (a : Int × LL × LL) : List Arg := [.v (.agg [.c (C.int .i64 a.1), .c (C.row 25 a.2.1), .c (C.row 66 a.2.2)])]
theorem Ar_ae {l : List Arg} {a : Int × LL × LL} (h : Ar_a l = some a) : l = Ar_e a := by
  unfold Ar_a at h; split at h <;> cases h <;> rfl
noncomputable def Ar_d : Res → Option LL
  | ⟨.one (.own 25 y0), []⟩ => some y0
  | _ => none
noncomputable def Ar_r (r : LL) : Res := ⟨.one (.own 25 r), []⟩
theorem Ar_dr {R : Res} {r : LL} (h : Ar_d R = some r) : R = Ar_r r := by
  unfold Ar_d at h; split at h <;> cases h <;> rfl
noncomputable def Ar_o (L : Lv) {Ω : Type} (f : FuncId) (l : List Arg) (K : Res → Option Ω) (next : Option Ω) : Option Ω := At 32 Ar_a (fun a => L.Ar a.1 a.2.1 a.2.2) Ar_r f l K next
noncomputable def Bc_a : List Arg → Option (Int × BA × BA × BA × LL × LL)
  | [.v (.agg [.c (.int .i64 xb), .c (.str xa), .c (.str xc), .c (.str xd), .c (.row 66 xe), .c (.row 25 xf)])] => some (xb, xa, xc, xd, xe, xf)
  | _ => none
noncomputable def Bc_e (a : Int × BA × BA × BA × LL × LL) : List Arg := [.v (.agg [.c (C.int .i64 a.1), .c (C.str a.2.1), .c (C.str a.2.2.1), .c (C.str a.2.2.2.1), .c (C.row 66 a.2.2.2.2.1), .c (C.row 25 a.2.2.2.2.2)])]
theorem Bc_ae {l : List Arg} {a : Int × BA × BA × BA × LL × LL} (h : Bc_a l = some a) : l = Bc_e a := by
  unfold Bc_a at h; split at h <;> cases h <;> rfl
noncomputable def Bc_d : Res → Option LL
  | ⟨.one (.own 25 y0), []⟩ => some y0
  | _ => none
noncomputable def Bc_r (r : LL) : Res := ⟨.one (.own 25 r), []⟩
theorem Bc_dr {R : Res} {r : LL} (h : Bc_d R = some r) : R = Bc_r r := by
  unfold Bc_d at h; split at h <;> cases h <;> rfl
noncomputable def Bc_o (L : Lv) {Ω : Type} (f : FuncId) (l : List Arg) (K : Res → Option Ω) (next : Option Ω) : Option Ω := At 53 Bc_a (fun a => L.Bc a.1 a.2.1 a.2.2.1 a.2.2.2.1 a.2.2.2.2.1 a.2.2.2.2.2) Bc_r f l K next
noncomputable def Bs_a : List Arg → Option (LL × LL × LL × Int × Int × Int × LL × LL × Int × LL × LL)
  | [.v (.agg [.c (.row 25 xb), .c (.row 39 xa), .c (.row 3 xc), .c (.int .i64 xd), .c (.int .i64 xe), .c (.int .i64 xf), .c (.row 83 xj), .c (.row 66 xk)]), .v (.agg [.c (.int .i64 xg), .c (.row 25 xh), .c (.row 66 xi)])] => some (xb, xa, xc, xd, xe, xf, xj, xk, xg, xh, xi)
  | _ => none
noncomputable def Bs_e (a : LL × LL × LL × Int × Int × Int × LL × LL × Int × LL × LL) : List Arg := [.v (.agg [.c (C.row 25 a.1), .c (C.row 39 a.2.1), .c (C.row 3 a.2.2.1), .c (C.int .i64 a.2.2.2.1), .c (C.int .i64 a.2.2.2.2.1), .c (C.int .i64 a.2.2.2.2.2.1), .c (C.row 83 a.2.2.2.2.2.2.1), .c (C.row 66 a.2.2.2.2.2.2.2.1)]), .v (.agg [.c (C.int .i64 a.2.2.2.2.2.2.2.2.1), .c (C.row 25 a.2.2.2.2.2.2.2.2.2.1), .c (C.row 66 a.2.2.2.2.2.2.2.2.2.2)])]
theorem Bs_ae {l : List Arg} {a : LL × LL × LL × Int × Int × Int × LL × LL × Int × LL × LL} (h : Bs_a l = some a) : l = Bs_e a := by
  unfold Bs_a at h; split at h <;> cases h <;> rfl
noncomputable def Bs_d : Res → Option Int
  | ⟨.one (.d (.int .i64 y0)), []⟩ => some y0
  | _ => none
noncomputable def Bs_r (r : Int) : Res := ⟨.one (.d (.int .i64 r)), []⟩
theorem Bs_dr {R : Res} {r : Int} (h : Bs_d R = some r) : R = Bs_r r := by
  unfold Bs_d at h; split at h <;> cases h <;> rfl
noncomputable def Bs_o (L : Lv) {Ω : Type} (f : FuncId) (l : List Arg) (K : Res → Option Ω) (next : Option Ω) : Option Ω := At 33 Bs_a (fun a => L.Bs a.1 a.2.1 a.2.2.1 a.2.2.2.1 a.2.2.2.2.1 a.2.2.2.2.2.1 a.2.2.2.2.2.2.1 a.2.2.2.2.2.2.2.1 a.2.2.2.2.2.2.2.2.1 a.2.2.2.2.2.2.2.2.2.1 a.2.2.2.2.2.2.2.2.2.2) Bs_r f l K next
noncomputable def Ba_a : List Arg → Option (Int × LL × LL × Int × LL × LL)
  | [.v (.agg [.c (.int .i64 xb), .c (.row 25 xa), .c (.row 66 xc)]), .v (.agg [.c (.int .i64 xg), .c (.row 25 xh), .c (.row 66 xi)])] => some (xb, xa, xc, xg, xh, xi)
  | _ => none
noncomputable def Ba_e (a : Int × LL × LL × Int × LL × LL) : List Arg := [.v (.agg [.c (C.int .i64 a.1), .c (C.row 25 a.2.1), .c (C.row 66 a.2.2.1)]), .v (.agg [.c (C.int .i64 a.2.2.2.1), .c (C.row 25 a.2.2.2.2.1), .c (C.row 66 a.2.2.2.2.2)])]
theorem Ba_ae {l : List Arg} {a : Int × LL × LL × Int × LL × LL} (h : Ba_a l = some a) : l = Ba_e a := by
  unfold Ba_a at h; split at h <;> cases h <;> rfl
noncomputable def Ba_d : Res → Option Bool
  | ⟨.one (.d (.bool y0)), []⟩ => some y0
  | _ => none
noncomputable def Ba_r (r : Bool) : Res := ⟨.one (.d (.bool r)), []⟩
theorem Ba_dr {R : Res} {r : Bool} (h : Ba_d R = some r) : R = Ba_r r := by
  unfold Ba_d at h; split at h <;> cases h <;> rfl
noncomputable def Ba_o (L : Lv) {Ω : Type} (f : FuncId) (l : List Arg) (K : Res → Option Ω) (next : Option Ω) : Option Ω := At 54 Ba_a (fun a => L.Ba a.1 a.2.1 a.2.2.1 a.2.2.2.1 a.2.2.2.2.1 a.2.2.2.2.2) Ba_r f l K next
noncomputable def Bf_a : List Arg → Option (Int × BA × BA × BA × LL × LL × Int × BA × BA × BA × LL × LL)
  | [.v (.agg [.c (.int .i64 xb), .c (.str xa), .c (.str xc), .c (.str xd), .c (.row 66 xe), .c (.row 25 xf)]), .v (.agg [.c (.int .i64 xg), .c (.str xh), .c (.str xi), .c (.str xl), .c (.row 66 xm), .c (.row 25 xq)])] => some (xb, xa, xc, xd, xe, xf, xg, xh, xi, xl, xm, xq)
  | _ => none
noncomputable def Bf_e (a : Int × BA × BA × BA × LL × LL × Int × BA × BA × BA × LL × LL) : List Arg := [.v (.agg [.c (C.int .i64 a.1), .c (C.str a.2.1), .c (C.str a.2.2.1), .c (C.str a.2.2.2.1), .c (C.row 66 a.2.2.2.2.1), .c (C.row 25 a.2.2.2.2.2.1)]), .v (.agg [.c (C.int .i64 a.2.2.2.2.2.2.1), .c (C.str a.2.2.2.2.2.2.2.1), .c (C.str a.2.2.2.2.2.2.2.2.1), .c (C.str a.2.2.2.2.2.2.2.2.2.1), .c (C.row 66 a.2.2.2.2.2.2.2.2.2.2.1), .c (C.row 25 a.2.2.2.2.2.2.2.2.2.2.2)])]
theorem Bf_ae {l : List Arg} {a : Int × BA × BA × BA × LL × LL × Int × BA × BA × BA × LL × LL} (h : Bf_a l = some a) : l = Bf_e a := by
  unfold Bf_a at h; split at h <;> cases h <;> rfl
noncomputable def Bf_d : Res → Option Bool
  | ⟨.one (.d (.bool y0)), []⟩ => some y0
  | _ => none
noncomputable def Bf_r (r : Bool) : Res := ⟨.one (.d (.bool r)), []⟩
theorem Bf_dr {R : Res} {r : Bool} (h : Bf_d R = some r) : R = Bf_r r := by
  unfold Bf_d at h; split at h <;> cases h <;> rfl
noncomputable def Bf_o (L : Lv) {Ω : Type} (f : FuncId) (l : List Arg) (K : Res → Option Ω) (next : Option Ω) : Option Ω := At 70 Bf_a (fun a => L.Bf a.1 a.2.1 a.2.2.1 a.2.2.2.1 a.2.2.2.2.1 a.2.2.2.2.2.1 a.2.2.2.2.2.2.1 a.2.2.2.2.2.2.2.1 a.2.2.2.2.2.2.2.2.1 a.2.2.2.2.2.2.2.2.2.1 a.2.2.2.2.2.2.2.2.2.2.1 a.2.2.2.2.2.2.2.2.2.2.2) Bf_r f l K next
noncomputable def Bu_a : List Arg → Option (LL × LL × LL × Int × Int × Int × LL × LL × Int × BA × BA × LL × BA × Bool × Bool × BA × Bool × Bool × BA)
  | [.v (.agg [.c (.row 25 xb), .c (.row 39 xa), .c (.row 3 xc), .c (.int .i64 xd), .c (.int .i64 xe), .c (.int .i64 xf), .c (.row 83 xj), .c (.row 66 xk)]), .v (.agg [.c (.int .i64 xg), .c (.str xh), .c (.str xi), .c (.row 86 xl), .c (.str xm)]), .v (.agg [.c (.bool xn), .c (.bool xo), .c (.str xp)]), .v (.agg [.c (.bool xx), .c (.bool xy), .c (.str xz)])] => some (xb, xa, xc, xd, xe, xf, xj, xk, xg, xh, xi, xl, xm, xn, xo, xp, xx, xy, xz)
  | _ => none
noncomputable def Bu_e (a : LL × LL × LL × Int × Int × Int × LL × LL × Int × BA × BA × LL × BA × Bool × Bool × BA × Bool × Bool × BA) : List Arg := [.v (.agg [.c (C.row 25 a.1), .c (C.row 39 a.2.1), .c (C.row 3 a.2.2.1), .c (C.int .i64 a.2.2.2.1), .c (C.int .i64 a.2.2.2.2.1), .c (C.int .i64 a.2.2.2.2.2.1), .c (C.row 83 a.2.2.2.2.2.2.1), .c (C.row 66 a.2.2.2.2.2.2.2.1)]), .v (.agg [.c (C.int .i64 a.2.2.2.2.2.2.2.2.1), .c (C.str a.2.2.2.2.2.2.2.2.2.1), .c (C.str a.2.2.2.2.2.2.2.2.2.2.1), .c (C.row 86 a.2.2.2.2.2.2.2.2.2.2.2.1), .c (C.str a.2.2.2.2.2.2.2.2.2.2.2.2.1)]), .v (.agg [.c (C.bool a.2.2.2.2.2.2.2.2.2.2.2.2.2.1), .c (C.bool a.2.2.2.2.2.2.2.2.2.2.2.2.2.2.1), .c (C.str a.2.2.2.2.2.2.2.2.2.2.2.2.2.2.2.1)]), .v (.agg [.c (C.bool a.2.2.2.2.2.2.2.2.2.2.2.2.2.2.2.2.1), .c (C.bool a.2.2.2.2.2.2.2.2.2.2.2.2.2.2.2.2.2.1), .c (C.str a.2.2.2.2.2.2.2.2.2.2.2.2.2.2.2.2.2.2)])]
theorem Bu_ae {l : List Arg} {a : LL × LL × LL × Int × Int × Int × LL × LL × Int × BA × BA × LL × BA × Bool × Bool × BA × Bool × Bool × BA} (h : Bu_a l = some a) : l = Bu_e a := by
  unfold Bu_a at h; split at h <;> cases h <;> rfl
noncomputable def Bu_d : Res → Option (Bool × Bool × BA)
  | ⟨.agg [.d (.bool y0), .d (.bool y1), .d (.str y2)], []⟩ => some (y0, y1, y2)
  | _ => none
noncomputable def Bu_r (r : Bool × Bool × BA) : Res := ⟨.agg [.d (.bool r.1), .d (.bool r.2.1), .d (.str r.2.2)], []⟩
theorem Bu_dr {R : Res} {r : Bool × Bool × BA} (h : Bu_d R = some r) : R = Bu_r r := by
  unfold Bu_d at h; split at h <;> cases h <;> rfl
noncomputable def Bu_o (L : Lv) {Ω : Type} (f : FuncId) (l : List Arg) (K : Res → Option Ω) (next : Option Ω) : Option Ω := At 13 Bu_a (fun a => L.Bu a.1 a.2.1 a.2.2.1 a.2.2.2.1 a.2.2.2.2.1 a.2.2.2.2.2.1 a.2.2.2.2.2.2.1 a.2.2.2.2.2.2.2.1 a.2.2.2.2.2.2.2.2.1 a.2.2.2.2.2.2.2.2.2.1 a.2.2.2.2.2.2.2.2.2.2.1 a.2.2.2.2.2.2.2.2.2.2.2.1 a.2.2.2.2.2.2.2.2.2.2.2.2.1 a.2.2.2.2.2.2.2.2.2.2.2.2.2.1 a.2.2.2.2.2.2.2.2.2.2.2.2.2.2.1 a.2.2.2.2.2.2.2.2.2.2.2.2.2.2.2.1 a.2.2.2.2.2.2.2.2.2.2.2.2.2.2.2.2.1 a.2.2.2.2.2.2.2.2.2.2.2.2.2.2.2.2.2.1 a.2.2.2.2.2.2.2.2.2.2.2.2.2.2.2.2.2.2) Bu_r f l K next
noncomputable def B4_a : List Arg → Option (LL × LL × LL × Int × Int × Int × LL × LL)
  | [.v (.agg [.c (.row 25 xb), .c (.row 39 xa), .c (.row 3 xc), .c (.int .i64 xd), .c (.int .i64 xe), .c (.int .i64 xf), .c (.row 83 xj), .c (.row 66 xk)])] => some (xb, xa, xc, xd, xe, xf, xj, xk)
  | _ => none
noncomputable def B4_e (a : LL × LL × LL × Int × Int × Int × LL × LL) : List Arg := [.v (.agg [.c (C.row 25 a.1), .c (C.row 39 a.2.1), .c (C.row 3 a.2.2.1), .c (C.int .i64 a.2.2.2.1), .c (C.int .i64 a.2.2.2.2.1), .c (C.int .i64 a.2.2.2.2.2.1), .c (C.row 83 a.2.2.2.2.2.2.1), .c (C.row 66 a.2.2.2.2.2.2.2)])]
theorem B4_ae {l : List Arg} {a : LL × LL × LL × Int × Int × Int × LL × LL} (h : B4_a l = some a) : l = B4_e a := by
  unfold B4_a at h; split at h <;> cases h <;> rfl
noncomputable def B4_d : Res → Option Int
  | ⟨.one (.d (.int .i64 y0)), []⟩ => some y0
  | _ => none
noncomputable def B4_r (r : Int) : Res := ⟨.one (.d (.int .i64 r)), []⟩
theorem B4_dr {R : Res} {r : Int} (h : B4_d R = some r) : R = B4_r r := by
  unfold B4_d at h; split at h <;> cases h <;> rfl
noncomputable def B4_o (L : Lv) {Ω : Type} (f : FuncId) (l : List Arg) (K : Res → Option Ω) (next : Option Ω) : Option Ω := At 35 B4_a (fun a => L.B4 a.1 a.2.1 a.2.2.1 a.2.2.2.1 a.2.2.2.2.1 a.2.2.2.2.2.1 a.2.2.2.2.2.2.1 a.2.2.2.2.2.2.2) B4_r f l K next
noncomputable def Ap_a : List Arg → Option (LL × LL × LL × Int × Int × Int × LL × LL × Int × BA × BA × LL × BA × Bool × Bool × BA × Bool × Bool × BA × LL × Int)
  | [.ref 79 [.d (.row 25 xb), .d (.row 39 xa), .d (.row 3 xc), .d (.int .i64 xd), .d (.int .i64 xe), .d (.int .i64 xf), .d (.row 83 xj), .d (.row 66 xk), .d (.int .i64 xv), .d (.str xw), .d (.str xs), .d (.row 86 xr), .d (.str xt), .d (.bool xu), .d (.bool yl), .d (.str ym), .d (.bool yn), .d (.bool yo), .d (.str yp), .own 5 yk] 0, .v (.one (.c (.int .i64 x1)))] => some (xb, xa, xc, xd, xe, xf, xj, xk, xv, xw, xs, xr, xt, xu, yl, ym, yn, yo, yp, yk, x1)
  | _ => none
noncomputable def Ap_e (a : LL × LL × LL × Int × Int × Int × LL × LL × Int × BA × BA × LL × BA × Bool × Bool × BA × Bool × Bool × BA × LL × Int) : List Arg := [.ref 79 [.d (C.row 25 a.1), .d (C.row 39 a.2.1), .d (C.row 3 a.2.2.1), .d (C.int .i64 a.2.2.2.1), .d (C.int .i64 a.2.2.2.2.1), .d (C.int .i64 a.2.2.2.2.2.1), .d (C.row 83 a.2.2.2.2.2.2.1), .d (C.row 66 a.2.2.2.2.2.2.2.1), .d (C.int .i64 a.2.2.2.2.2.2.2.2.1), .d (C.str a.2.2.2.2.2.2.2.2.2.1), .d (C.str a.2.2.2.2.2.2.2.2.2.2.1), .d (C.row 86 a.2.2.2.2.2.2.2.2.2.2.2.1), .d (C.str a.2.2.2.2.2.2.2.2.2.2.2.2.1), .d (C.bool a.2.2.2.2.2.2.2.2.2.2.2.2.2.1), .d (C.bool a.2.2.2.2.2.2.2.2.2.2.2.2.2.2.1), .d (C.str a.2.2.2.2.2.2.2.2.2.2.2.2.2.2.2.1), .d (C.bool a.2.2.2.2.2.2.2.2.2.2.2.2.2.2.2.2.1), .d (C.bool a.2.2.2.2.2.2.2.2.2.2.2.2.2.2.2.2.2.1), .d (C.str a.2.2.2.2.2.2.2.2.2.2.2.2.2.2.2.2.2.2.1), .own 5 a.2.2.2.2.2.2.2.2.2.2.2.2.2.2.2.2.2.2.2.1] 0, .v (.one (.c (C.int .i64 a.2.2.2.2.2.2.2.2.2.2.2.2.2.2.2.2.2.2.2.2)))]
theorem Ap_ae {l : List Arg} {a : LL × LL × LL × Int × Int × Int × LL × LL × Int × BA × BA × LL × BA × Bool × Bool × BA × Bool × Bool × BA × LL × Int} (h : Ap_a l = some a) : l = Ap_e a := by
  unfold Ap_a at h; split at h <;> cases h <;> rfl
noncomputable def Ap_d : Res → Option (LL × LL × LL × Int × Int × Int × LL × LL × Int × BA × BA × LL × BA × Bool × Bool × BA × Bool × Bool × BA × LL)
  | ⟨.tup [], [[.d (.row 25 y0), .d (.row 39 y1), .d (.row 3 y2), .d (.int .i64 y3), .d (.int .i64 y4), .d (.int .i64 y5), .d (.row 83 y6), .d (.row 66 y7), .d (.int .i64 y8), .d (.str y9), .d (.str yq), .d (.row 86 yr), .d (.str ys), .d (.bool yt), .d (.bool yu), .d (.str yv), .d (.bool yw), .d (.bool yx), .d (.str yy), .own 5 yz]]⟩ => some (y0, y1, y2, y3, y4, y5, y6, y7, y8, y9, yq, yr, ys, yt, yu, yv, yw, yx, yy, yz)
  | _ => none
noncomputable def Ap_r (r : LL × LL × LL × Int × Int × Int × LL × LL × Int × BA × BA × LL × BA × Bool × Bool × BA × Bool × Bool × BA × LL) : Res := ⟨.tup [], [[.d (.row 25 r.1), .d (.row 39 r.2.1), .d (.row 3 r.2.2.1), .d (.int .i64 r.2.2.2.1), .d (.int .i64 r.2.2.2.2.1), .d (.int .i64 r.2.2.2.2.2.1), .d (.row 83 r.2.2.2.2.2.2.1), .d (.row 66 r.2.2.2.2.2.2.2.1), .d (.int .i64 r.2.2.2.2.2.2.2.2.1), .d (.str r.2.2.2.2.2.2.2.2.2.1), .d (.str r.2.2.2.2.2.2.2.2.2.2.1), .d (.row 86 r.2.2.2.2.2.2.2.2.2.2.2.1), .d (.str r.2.2.2.2.2.2.2.2.2.2.2.2.1), .d (.bool r.2.2.2.2.2.2.2.2.2.2.2.2.2.1), .d (.bool r.2.2.2.2.2.2.2.2.2.2.2.2.2.2.1), .d (.str r.2.2.2.2.2.2.2.2.2.2.2.2.2.2.2.1), .d (.bool r.2.2.2.2.2.2.2.2.2.2.2.2.2.2.2.2.1), .d (.bool r.2.2.2.2.2.2.2.2.2.2.2.2.2.2.2.2.2.1), .d (.str r.2.2.2.2.2.2.2.2.2.2.2.2.2.2.2.2.2.2.1), .own 5 r.2.2.2.2.2.2.2.2.2.2.2.2.2.2.2.2.2.2.2]]⟩
theorem Ap_dr {R : Res} {r : LL × LL × LL × Int × Int × Int × LL × LL × Int × BA × BA × LL × BA × Bool × Bool × BA × Bool × Bool × BA × LL} (h : Ap_d R = some r) : R = Ap_r r := by
  unfold Ap_d at h; split at h <;> cases h <;> rfl
noncomputable def Ap_o (L : Lv) {Ω : Type} (f : FuncId) (l : List Arg) (K : Res → Option Ω) (next : Option Ω) : Option Ω := At 36 Ap_a (fun a => L.Ap a.1 a.2.1 a.2.2.1 a.2.2.2.1 a.2.2.2.2.1 a.2.2.2.2.2.1 a.2.2.2.2.2.2.1 a.2.2.2.2.2.2.2.1 a.2.2.2.2.2.2.2.2.1 a.2.2.2.2.2.2.2.2.2.1 a.2.2.2.2.2.2.2.2.2.2.1 a.2.2.2.2.2.2.2.2.2.2.2.1 a.2.2.2.2.2.2.2.2.2.2.2.2.1 a.2.2.2.2.2.2.2.2.2.2.2.2.2.1 a.2.2.2.2.2.2.2.2.2.2.2.2.2.2.1 a.2.2.2.2.2.2.2.2.2.2.2.2.2.2.2.1 a.2.2.2.2.2.2.2.2.2.2.2.2.2.2.2.2.1 a.2.2.2.2.2.2.2.2.2.2.2.2.2.2.2.2.2.1 a.2.2.2.2.2.2.2.2.2.2.2.2.2.2.2.2.2.2.1 a.2.2.2.2.2.2.2.2.2.2.2.2.2.2.2.2.2.2.2.1 a.2.2.2.2.2.2.2.2.2.2.2.2.2.2.2.2.2.2.2.2) Ap_r f l K next
noncomputable def Bk_a : List Arg → Option (LL × LL × LL × Int × Int × Int × LL × LL × Int × Int × Int × LL × LL × Int × BA × BA × LL × BA × LL)
  | [.v (.agg [.c (.row 25 xb), .c (.row 39 xa), .c (.row 3 xc), .c (.int .i64 xd), .c (.int .i64 xe), .c (.int .i64 xf), .c (.row 83 xj), .c (.row 66 xk)]), .v (.agg [.c (.int .i64 xg), .c (.int .i64 xh), .c (.int .i64 xi), .c (.row 83 xl), .c (.row 66 xm)]), .v (.agg [.c (.int .i64 xn), .c (.str xo), .c (.str xp), .c (.row 86 yi), .c (.str yj)]), .v (.one (.c (.row 5 x3)))] => some (xb, xa, xc, xd, xe, xf, xj, xk, xg, xh, xi, xl, xm, xn, xo, xp, yi, yj, x3)
  | _ => none
noncomputable def Bk_e (a : LL × LL × LL × Int × Int × Int × LL × LL × Int × Int × Int × LL × LL × Int × BA × BA × LL × BA × LL) : List Arg := [.v (.agg [.c (C.row 25 a.1), .c (C.row 39 a.2.1), .c (C.row 3 a.2.2.1), .c (C.int .i64 a.2.2.2.1), .c (C.int .i64 a.2.2.2.2.1), .c (C.int .i64 a.2.2.2.2.2.1), .c (C.row 83 a.2.2.2.2.2.2.1), .c (C.row 66 a.2.2.2.2.2.2.2.1)]), .v (.agg [.c (C.int .i64 a.2.2.2.2.2.2.2.2.1), .c (C.int .i64 a.2.2.2.2.2.2.2.2.2.1), .c (C.int .i64 a.2.2.2.2.2.2.2.2.2.2.1), .c (C.row 83 a.2.2.2.2.2.2.2.2.2.2.2.1), .c (C.row 66 a.2.2.2.2.2.2.2.2.2.2.2.2.1)]), .v (.agg [.c (C.int .i64 a.2.2.2.2.2.2.2.2.2.2.2.2.2.1), .c (C.str a.2.2.2.2.2.2.2.2.2.2.2.2.2.2.1), .c (C.str a.2.2.2.2.2.2.2.2.2.2.2.2.2.2.2.1), .c (C.row 86 a.2.2.2.2.2.2.2.2.2.2.2.2.2.2.2.2.1), .c (C.str a.2.2.2.2.2.2.2.2.2.2.2.2.2.2.2.2.2.1)]), .v (.one (.c (C.row 5 a.2.2.2.2.2.2.2.2.2.2.2.2.2.2.2.2.2.2)))]
theorem Bk_ae {l : List Arg} {a : LL × LL × LL × Int × Int × Int × LL × LL × Int × Int × Int × LL × LL × Int × BA × BA × LL × BA × LL} (h : Bk_a l = some a) : l = Bk_e a := by
  unfold Bk_a at h; split at h <;> cases h <;> rfl
noncomputable def Bk_d : Res → Option LL
  | ⟨.one (.own 4 y0), []⟩ => some y0
  | _ => none
noncomputable def Bk_r (r : LL) : Res := ⟨.one (.own 4 r), []⟩
theorem Bk_dr {R : Res} {r : LL} (h : Bk_d R = some r) : R = Bk_r r := by
  unfold Bk_d at h; split at h <;> cases h <;> rfl
noncomputable def Bk_o (L : Lv) {Ω : Type} (f : FuncId) (l : List Arg) (K : Res → Option Ω) (next : Option Ω) : Option Ω := At 43 Bk_a (fun a => L.Bk a.1 a.2.1 a.2.2.1 a.2.2.2.1 a.2.2.2.2.1 a.2.2.2.2.2.1 a.2.2.2.2.2.2.1 a.2.2.2.2.2.2.2.1 a.2.2.2.2.2.2.2.2.1 a.2.2.2.2.2.2.2.2.2.1 a.2.2.2.2.2.2.2.2.2.2.1 a.2.2.2.2.2.2.2.2.2.2.2.1 a.2.2.2.2.2.2.2.2.2.2.2.2.1 a.2.2.2.2.2.2.2.2.2.2.2.2.2.1 a.2.2.2.2.2.2.2.2.2.2.2.2.2.2.1 a.2.2.2.2.2.2.2.2.2.2.2.2.2.2.2.1 a.2.2.2.2.2.2.2.2.2.2.2.2.2.2.2.2.1 a.2.2.2.2.2.2.2.2.2.2.2.2.2.2.2.2.2.1 a.2.2.2.2.2.2.2.2.2.2.2.2.2.2.2.2.2.2) Bk_r f l K next
noncomputable def Cy_a : List Arg → Option (LL × LL × LL × Int × Int × Int × LL × LL × Int × BA × BA × LL × BA × LL × Int × BA × BA × BA × LL × LL)
  | [.ref 112 [.d (.row 25 xb), .d (.row 39 xa), .d (.row 3 xc), .d (.int .i64 xd), .d (.int .i64 xe), .d (.int .i64 xf), .d (.row 83 xj), .d (.row 66 xk), .d (.int .i64 xv), .d (.str xw), .d (.str xs), .d (.row 86 xr), .d (.str xt), .d (.row 5 xu)] 0, .v (.agg [.c (.int .i64 xg), .c (.str xh), .c (.str xi), .c (.str xl), .c (.row 66 xm), .c (.row 25 xq)])] => some (xb, xa, xc, xd, xe, xf, xj, xk, xv, xw, xs, xr, xt, xu, xg, xh, xi, xl, xm, xq)
  | _ => none
noncomputable def Cy_e (a : LL × LL × LL × Int × Int × Int × LL × LL × Int × BA × BA × LL × BA × LL × Int × BA × BA × BA × LL × LL) : List Arg := [.ref 112 [.d (C.row 25 a.1), .d (C.row 39 a.2.1), .d (C.row 3 a.2.2.1), .d (C.int .i64 a.2.2.2.1), .d (C.int .i64 a.2.2.2.2.1), .d (C.int .i64 a.2.2.2.2.2.1), .d (C.row 83 a.2.2.2.2.2.2.1), .d (C.row 66 a.2.2.2.2.2.2.2.1), .d (C.int .i64 a.2.2.2.2.2.2.2.2.1), .d (C.str a.2.2.2.2.2.2.2.2.2.1), .d (C.str a.2.2.2.2.2.2.2.2.2.2.1), .d (C.row 86 a.2.2.2.2.2.2.2.2.2.2.2.1), .d (C.str a.2.2.2.2.2.2.2.2.2.2.2.2.1), .d (C.row 5 a.2.2.2.2.2.2.2.2.2.2.2.2.2.1)] 0, .v (.agg [.c (C.int .i64 a.2.2.2.2.2.2.2.2.2.2.2.2.2.2.1), .c (C.str a.2.2.2.2.2.2.2.2.2.2.2.2.2.2.2.1), .c (C.str a.2.2.2.2.2.2.2.2.2.2.2.2.2.2.2.2.1), .c (C.str a.2.2.2.2.2.2.2.2.2.2.2.2.2.2.2.2.2.1), .c (C.row 66 a.2.2.2.2.2.2.2.2.2.2.2.2.2.2.2.2.2.2.1), .c (C.row 25 a.2.2.2.2.2.2.2.2.2.2.2.2.2.2.2.2.2.2.2)])]
theorem Cy_ae {l : List Arg} {a : LL × LL × LL × Int × Int × Int × LL × LL × Int × BA × BA × LL × BA × LL × Int × BA × BA × BA × LL × LL} (h : Cy_a l = some a) : l = Cy_e a := by
  unfold Cy_a at h; split at h <;> cases h <;> rfl
noncomputable def Cy_d : Res → Option (Bool × LL × LL × LL × Int × Int × Int × LL × LL × Int × BA × BA × LL × BA × LL)
  | ⟨.one (.d (.bool y0)), [[.d (.row 25 y1), .d (.row 39 y2), .d (.row 3 y3), .d (.int .i64 y4), .d (.int .i64 y5), .d (.int .i64 y6), .d (.row 83 y7), .d (.row 66 y8), .d (.int .i64 y9), .d (.str yq), .d (.str yr), .d (.row 86 ys), .d (.str yt), .d (.row 5 yu)]]⟩ => some (y0, y1, y2, y3, y4, y5, y6, y7, y8, y9, yq, yr, ys, yt, yu)
  | _ => none
noncomputable def Cy_r (r : Bool × LL × LL × LL × Int × Int × Int × LL × LL × Int × BA × BA × LL × BA × LL) : Res := ⟨.one (.d (.bool r.1)), [[.d (.row 25 r.2.1), .d (.row 39 r.2.2.1), .d (.row 3 r.2.2.2.1), .d (.int .i64 r.2.2.2.2.1), .d (.int .i64 r.2.2.2.2.2.1), .d (.int .i64 r.2.2.2.2.2.2.1), .d (.row 83 r.2.2.2.2.2.2.2.1), .d (.row 66 r.2.2.2.2.2.2.2.2.1), .d (.int .i64 r.2.2.2.2.2.2.2.2.2.1), .d (.str r.2.2.2.2.2.2.2.2.2.2.1), .d (.str r.2.2.2.2.2.2.2.2.2.2.2.1), .d (.row 86 r.2.2.2.2.2.2.2.2.2.2.2.2.1), .d (.str r.2.2.2.2.2.2.2.2.2.2.2.2.2.1), .d (.row 5 r.2.2.2.2.2.2.2.2.2.2.2.2.2.2)]]⟩
theorem Cy_dr {R : Res} {r : Bool × LL × LL × LL × Int × Int × Int × LL × LL × Int × BA × BA × LL × BA × LL} (h : Cy_d R = some r) : R = Cy_r r := by
  unfold Cy_d at h; split at h <;> cases h <;> rfl
noncomputable def Cy_o (L : Lv) {Ω : Type} (f : FuncId) (l : List Arg) (K : Res → Option Ω) (next : Option Ω) : Option Ω := At 58 Cy_a (fun a => L.Cy a.1 a.2.1 a.2.2.1 a.2.2.2.1 a.2.2.2.2.1 a.2.2.2.2.2.1 a.2.2.2.2.2.2.1 a.2.2.2.2.2.2.2.1 a.2.2.2.2.2.2.2.2.1 a.2.2.2.2.2.2.2.2.2.1 a.2.2.2.2.2.2.2.2.2.2.1 a.2.2.2.2.2.2.2.2.2.2.2.1 a.2.2.2.2.2.2.2.2.2.2.2.2.1 a.2.2.2.2.2.2.2.2.2.2.2.2.2.1 a.2.2.2.2.2.2.2.2.2.2.2.2.2.2.1 a.2.2.2.2.2.2.2.2.2.2.2.2.2.2.2.1 a.2.2.2.2.2.2.2.2.2.2.2.2.2.2.2.2.1 a.2.2.2.2.2.2.2.2.2.2.2.2.2.2.2.2.2.1 a.2.2.2.2.2.2.2.2.2.2.2.2.2.2.2.2.2.2.1 a.2.2.2.2.2.2.2.2.2.2.2.2.2.2.2.2.2.2.2) Cy_r f l K next
noncomputable def Bz_a : List Arg → Option (LL × LL × LL × Int × Int × Int × LL × LL × Int × BA × BA × LL × BA × LL × BA × BA)
  | [.ref 112 [.d (.row 25 xb), .d (.row 39 xa), .d (.row 3 xc), .d (.int .i64 xd), .d (.int .i64 xe), .d (.int .i64 xf), .d (.row 83 xj), .d (.row 66 xk), .d (.int .i64 xv), .d (.str xw), .d (.str xs), .d (.row 86 xr), .d (.str xt), .d (.row 5 xu)] 0, .v (.agg [.c (.str xg), .c (.str xh)])] => some (xb, xa, xc, xd, xe, xf, xj, xk, xv, xw, xs, xr, xt, xu, xg, xh)
  | _ => none
noncomputable def Bz_e (a : LL × LL × LL × Int × Int × Int × LL × LL × Int × BA × BA × LL × BA × LL × BA × BA) : List Arg := [.ref 112 [.d (C.row 25 a.1), .d (C.row 39 a.2.1), .d (C.row 3 a.2.2.1), .d (C.int .i64 a.2.2.2.1), .d (C.int .i64 a.2.2.2.2.1), .d (C.int .i64 a.2.2.2.2.2.1), .d (C.row 83 a.2.2.2.2.2.2.1), .d (C.row 66 a.2.2.2.2.2.2.2.1), .d (C.int .i64 a.2.2.2.2.2.2.2.2.1), .d (C.str a.2.2.2.2.2.2.2.2.2.1), .d (C.str a.2.2.2.2.2.2.2.2.2.2.1), .d (C.row 86 a.2.2.2.2.2.2.2.2.2.2.2.1), .d (C.str a.2.2.2.2.2.2.2.2.2.2.2.2.1), .d (C.row 5 a.2.2.2.2.2.2.2.2.2.2.2.2.2.1)] 0, .v (.agg [.c (C.str a.2.2.2.2.2.2.2.2.2.2.2.2.2.2.1), .c (C.str a.2.2.2.2.2.2.2.2.2.2.2.2.2.2.2)])]
theorem Bz_ae {l : List Arg} {a : LL × LL × LL × Int × Int × Int × LL × LL × Int × BA × BA × LL × BA × LL × BA × BA} (h : Bz_a l = some a) : l = Bz_e a := by
  unfold Bz_a at h; split at h <;> cases h <;> rfl
noncomputable def Bz_d : Res → Option (BA × Bool × LL × LL × LL × Int × Int × Int × LL × LL × Int × BA × BA × LL × BA × LL)
  | ⟨.tup [.one (.d (.str y0)), .one (.d (.bool y1))], [[.d (.row 25 y2), .d (.row 39 y3), .d (.row 3 y4), .d (.int .i64 y5), .d (.int .i64 y6), .d (.int .i64 y7), .d (.row 83 y8), .d (.row 66 y9), .d (.int .i64 yq), .d (.str yr), .d (.str ys), .d (.row 86 yt), .d (.str yu), .d (.row 5 yv)]]⟩ => some (y0, y1, y2, y3, y4, y5, y6, y7, y8, y9, yq, yr, ys, yt, yu, yv)
  | _ => none
noncomputable def Bz_r (r : BA × Bool × LL × LL × LL × Int × Int × Int × LL × LL × Int × BA × BA × LL × BA × LL) : Res := ⟨.tup [.one (.d (.str r.1)), .one (.d (.bool r.2.1))], [[.d (.row 25 r.2.2.1), .d (.row 39 r.2.2.2.1), .d (.row 3 r.2.2.2.2.1), .d (.int .i64 r.2.2.2.2.2.1), .d (.int .i64 r.2.2.2.2.2.2.1), .d (.int .i64 r.2.2.2.2.2.2.2.1), .d (.row 83 r.2.2.2.2.2.2.2.2.1), .d (.row 66 r.2.2.2.2.2.2.2.2.2.1), .d (.int .i64 r.2.2.2.2.2.2.2.2.2.2.1), .d (.str r.2.2.2.2.2.2.2.2.2.2.2.1), .d (.str r.2.2.2.2.2.2.2.2.2.2.2.2.1), .d (.row 86 r.2.2.2.2.2.2.2.2.2.2.2.2.2.1), .d (.str r.2.2.2.2.2.2.2.2.2.2.2.2.2.2.1), .d (.row 5 r.2.2.2.2.2.2.2.2.2.2.2.2.2.2.2)]]⟩
theorem Bz_dr {R : Res} {r : BA × Bool × LL × LL × LL × Int × Int × Int × LL × LL × Int × BA × BA × LL × BA × LL} (h : Bz_d R = some r) : R = Bz_r r := by
  unfold Bz_d at h; split at h <;> cases h <;> rfl
noncomputable def Bz_o (L : Lv) {Ω : Type} (f : FuncId) (l : List Arg) (K : Res → Option Ω) (next : Option Ω) : Option Ω := At 73 Bz_a (fun a => L.Bz a.1 a.2.1 a.2.2.1 a.2.2.2.1 a.2.2.2.2.1 a.2.2.2.2.2.1 a.2.2.2.2.2.2.1 a.2.2.2.2.2.2.2.1 a.2.2.2.2.2.2.2.2.1 a.2.2.2.2.2.2.2.2.2.1 a.2.2.2.2.2.2.2.2.2.2.1 a.2.2.2.2.2.2.2.2.2.2.2.1 a.2.2.2.2.2.2.2.2.2.2.2.2.1 a.2.2.2.2.2.2.2.2.2.2.2.2.2.1 a.2.2.2.2.2.2.2.2.2.2.2.2.2.2.1 a.2.2.2.2.2.2.2.2.2.2.2.2.2.2.2) Bz_r f l K next
noncomputable def Cm_a : List Arg → Option (LL × LL × LL × LL × Int × Int × Int × LL × LL × Int × BA × BA × LL × BA × LL)
  | [.v (.one (.c (.row 66 x0))), .fnr 75 true 112 [.row 25 xg, .row 39 xh, .row 3 xi, .int .i64 xl, .int .i64 xm, .int .i64 xq, .row 83 ye, .row 66 yf, .int .i64 yg, .str yh, .str ya, .row 86 yb, .str yc, .row 5 yd] 0] => some (x0, xg, xh, xi, xl, xm, xq, ye, yf, yg, yh, ya, yb, yc, yd)
  | _ => none
noncomputable def Cm_e (a : LL × LL × LL × LL × Int × Int × Int × LL × LL × Int × BA × BA × LL × BA × LL) : List Arg := [.v (.one (.c (C.row 66 a.1))), .fnr 75 true 112 [C.row 25 a.2.1, C.row 39 a.2.2.1, C.row 3 a.2.2.2.1, C.int .i64 a.2.2.2.2.1, C.int .i64 a.2.2.2.2.2.1, C.int .i64 a.2.2.2.2.2.2.1, C.row 83 a.2.2.2.2.2.2.2.1, C.row 66 a.2.2.2.2.2.2.2.2.1, C.int .i64 a.2.2.2.2.2.2.2.2.2.1, C.str a.2.2.2.2.2.2.2.2.2.2.1, C.str a.2.2.2.2.2.2.2.2.2.2.2.1, C.row 86 a.2.2.2.2.2.2.2.2.2.2.2.2.1, C.str a.2.2.2.2.2.2.2.2.2.2.2.2.2.1, C.row 5 a.2.2.2.2.2.2.2.2.2.2.2.2.2.2] 0]
theorem Cm_ae {l : List Arg} {a : LL × LL × LL × LL × Int × Int × Int × LL × LL × Int × BA × BA × LL × BA × LL} (h : Cm_a l = some a) : l = Cm_e a := by
  unfold Cm_a at h; split at h <;> cases h <;> rfl
noncomputable def Cm_d : Res → Option Bool
  | ⟨.one (.d (.bool y0)), []⟩ => some y0
  | _ => none
noncomputable def Cm_r (r : Bool) : Res := ⟨.one (.d (.bool r)), []⟩
theorem Cm_dr {R : Res} {r : Bool} (h : Cm_d R = some r) : R = Cm_r r := by
  unfold Cm_d at h; split at h <;> cases h <;> rfl
noncomputable def Cm_o (L : Lv) {Ω : Type} (f : FuncId) (l : List Arg) (K : Res → Option Ω) (next : Option Ω) : Option Ω := At 74 Cm_a (fun a => L.Cm a.1 a.2.1 a.2.2.1 a.2.2.2.1 a.2.2.2.2.1 a.2.2.2.2.2.1 a.2.2.2.2.2.2.1 a.2.2.2.2.2.2.2.1 a.2.2.2.2.2.2.2.2.1 a.2.2.2.2.2.2.2.2.2.1 a.2.2.2.2.2.2.2.2.2.2.1 a.2.2.2.2.2.2.2.2.2.2.2.1 a.2.2.2.2.2.2.2.2.2.2.2.2.1 a.2.2.2.2.2.2.2.2.2.2.2.2.2.1 a.2.2.2.2.2.2.2.2.2.2.2.2.2.2) Cm_r f l K next
noncomputable def Cn_a : List Arg → Option (LL × LL × LL × LL × Int × Int × Int × LL × LL × Int × BA × BA × LL × BA × LL)
  | [.v (.one (.c (.row 66 x0))), .fnr 58 true 112 [.row 25 xg, .row 39 xh, .row 3 xi, .int .i64 xl, .int .i64 xm, .int .i64 xq, .row 83 ye, .row 66 yf, .int .i64 yg, .str yh, .str ya, .row 86 yb, .str yc, .row 5 yd] 0] => some (x0, xg, xh, xi, xl, xm, xq, ye, yf, yg, yh, ya, yb, yc, yd)
  | _ => none
noncomputable def Cn_e (a : LL × LL × LL × LL × Int × Int × Int × LL × LL × Int × BA × BA × LL × BA × LL) : List Arg := [.v (.one (.c (C.row 66 a.1))), .fnr 58 true 112 [C.row 25 a.2.1, C.row 39 a.2.2.1, C.row 3 a.2.2.2.1, C.int .i64 a.2.2.2.2.1, C.int .i64 a.2.2.2.2.2.1, C.int .i64 a.2.2.2.2.2.2.1, C.row 83 a.2.2.2.2.2.2.2.1, C.row 66 a.2.2.2.2.2.2.2.2.1, C.int .i64 a.2.2.2.2.2.2.2.2.2.1, C.str a.2.2.2.2.2.2.2.2.2.2.1, C.str a.2.2.2.2.2.2.2.2.2.2.2.1, C.row 86 a.2.2.2.2.2.2.2.2.2.2.2.2.1, C.str a.2.2.2.2.2.2.2.2.2.2.2.2.2.1, C.row 5 a.2.2.2.2.2.2.2.2.2.2.2.2.2.2] 0]
theorem Cn_ae {l : List Arg} {a : LL × LL × LL × LL × Int × Int × Int × LL × LL × Int × BA × BA × LL × BA × LL} (h : Cn_a l = some a) : l = Cn_e a := by
  unfold Cn_a at h; split at h <;> cases h <;> rfl
noncomputable def Cn_d : Res → Option Bool
  | ⟨.one (.d (.bool y0)), []⟩ => some y0
  | _ => none
noncomputable def Cn_r (r : Bool) : Res := ⟨.one (.d (.bool r)), []⟩
theorem Cn_dr {R : Res} {r : Bool} (h : Cn_d R = some r) : R = Cn_r r := by
  unfold Cn_d at h; split at h <;> cases h <;> rfl
noncomputable def Cn_o (L : Lv) {Ω : Type} (f : FuncId) (l : List Arg) (K : Res → Option Ω) (next : Option Ω) : Option Ω := At 74 Cn_a (fun a => L.Cn a.1 a.2.1 a.2.2.1 a.2.2.2.1 a.2.2.2.2.1 a.2.2.2.2.2.1 a.2.2.2.2.2.2.1 a.2.2.2.2.2.2.2.1 a.2.2.2.2.2.2.2.2.1 a.2.2.2.2.2.2.2.2.2.1 a.2.2.2.2.2.2.2.2.2.2.1 a.2.2.2.2.2.2.2.2.2.2.2.1 a.2.2.2.2.2.2.2.2.2.2.2.2.1 a.2.2.2.2.2.2.2.2.2.2.2.2.2.1 a.2.2.2.2.2.2.2.2.2.2.2.2.2.2) Cn_r f l K next
noncomputable def Co_a : List Arg → Option (LL × LL × LL × LL × Int × Int × Int × LL × LL × Int × BA × BA × LL × BA × LL)
  | [.v (.one (.c (.row 25 x0))), .fnr 77 true 112 [.row 25 xg, .row 39 xh, .row 3 xi, .int .i64 xl, .int .i64 xm, .int .i64 xq, .row 83 ye, .row 66 yf, .int .i64 yg, .str yh, .str ya, .row 86 yb, .str yc, .row 5 yd] 0] => some (x0, xg, xh, xi, xl, xm, xq, ye, yf, yg, yh, ya, yb, yc, yd)
  | _ => none
noncomputable def Co_e (a : LL × LL × LL × LL × Int × Int × Int × LL × LL × Int × BA × BA × LL × BA × LL) : List Arg := [.v (.one (.c (C.row 25 a.1))), .fnr 77 true 112 [C.row 25 a.2.1, C.row 39 a.2.2.1, C.row 3 a.2.2.2.1, C.int .i64 a.2.2.2.2.1, C.int .i64 a.2.2.2.2.2.1, C.int .i64 a.2.2.2.2.2.2.1, C.row 83 a.2.2.2.2.2.2.2.1, C.row 66 a.2.2.2.2.2.2.2.2.1, C.int .i64 a.2.2.2.2.2.2.2.2.2.1, C.str a.2.2.2.2.2.2.2.2.2.2.1, C.str a.2.2.2.2.2.2.2.2.2.2.2.1, C.row 86 a.2.2.2.2.2.2.2.2.2.2.2.2.1, C.str a.2.2.2.2.2.2.2.2.2.2.2.2.2.1, C.row 5 a.2.2.2.2.2.2.2.2.2.2.2.2.2.2] 0]
theorem Co_ae {l : List Arg} {a : LL × LL × LL × LL × Int × Int × Int × LL × LL × Int × BA × BA × LL × BA × LL} (h : Co_a l = some a) : l = Co_e a := by
  unfold Co_a at h; split at h <;> cases h <;> rfl
noncomputable def Co_d : Res → Option Bool
  | ⟨.one (.d (.bool y0)), []⟩ => some y0
  | _ => none
noncomputable def Co_r (r : Bool) : Res := ⟨.one (.d (.bool r)), []⟩
theorem Co_dr {R : Res} {r : Bool} (h : Co_d R = some r) : R = Co_r r := by
  unfold Co_d at h; split at h <;> cases h <;> rfl
noncomputable def Co_o (L : Lv) {Ω : Type} (f : FuncId) (l : List Arg) (K : Res → Option Ω) (next : Option Ω) : Option Ω := At 76 Co_a (fun a => L.Co a.1 a.2.1 a.2.2.1 a.2.2.2.1 a.2.2.2.2.1 a.2.2.2.2.2.1 a.2.2.2.2.2.2.1 a.2.2.2.2.2.2.2.1 a.2.2.2.2.2.2.2.2.1 a.2.2.2.2.2.2.2.2.2.1 a.2.2.2.2.2.2.2.2.2.2.1 a.2.2.2.2.2.2.2.2.2.2.2.1 a.2.2.2.2.2.2.2.2.2.2.2.2.1 a.2.2.2.2.2.2.2.2.2.2.2.2.2.1 a.2.2.2.2.2.2.2.2.2.2.2.2.2.2) Co_r f l K next
noncomputable def B6_a : List Arg → Option (LL × LL × LL × LL × Int × Int × Int × LL × LL × Int × BA × BA × LL × BA × LL)
  | [.v (.one (.c (.row 66 x0))), .fnr 75 true 112 [.row 25 xg, .row 39 xh, .row 3 xi, .int .i64 xl, .int .i64 xm, .int .i64 xq, .row 83 ye, .row 66 yf, .int .i64 yg, .str yh, .str ya, .row 86 yb, .str yc, .row 5 yd] 0] => some (x0, xg, xh, xi, xl, xm, xq, ye, yf, yg, yh, ya, yb, yc, yd)
  | _ => none
noncomputable def B6_e (a : LL × LL × LL × LL × Int × Int × Int × LL × LL × Int × BA × BA × LL × BA × LL) : List Arg := [.v (.one (.c (C.row 66 a.1))), .fnr 75 true 112 [C.row 25 a.2.1, C.row 39 a.2.2.1, C.row 3 a.2.2.2.1, C.int .i64 a.2.2.2.2.1, C.int .i64 a.2.2.2.2.2.1, C.int .i64 a.2.2.2.2.2.2.1, C.row 83 a.2.2.2.2.2.2.2.1, C.row 66 a.2.2.2.2.2.2.2.2.1, C.int .i64 a.2.2.2.2.2.2.2.2.2.1, C.str a.2.2.2.2.2.2.2.2.2.2.1, C.str a.2.2.2.2.2.2.2.2.2.2.2.1, C.row 86 a.2.2.2.2.2.2.2.2.2.2.2.2.1, C.str a.2.2.2.2.2.2.2.2.2.2.2.2.2.1, C.row 5 a.2.2.2.2.2.2.2.2.2.2.2.2.2.2] 0]
theorem B6_ae {l : List Arg} {a : LL × LL × LL × LL × Int × Int × Int × LL × LL × Int × BA × BA × LL × BA × LL} (h : B6_a l = some a) : l = B6_e a := by
  unfold B6_a at h; split at h <;> cases h <;> rfl
noncomputable def B6_d : Res → Option Int
  | ⟨.one (.d (.int .i64 y0)), []⟩ => some y0
  | _ => none
noncomputable def B6_r (r : Int) : Res := ⟨.one (.d (.int .i64 r)), []⟩
theorem B6_dr {R : Res} {r : Int} (h : B6_d R = some r) : R = B6_r r := by
  unfold B6_d at h; split at h <;> cases h <;> rfl
noncomputable def B6_o (L : Lv) {Ω : Type} (f : FuncId) (l : List Arg) (K : Res → Option Ω) (next : Option Ω) : Option Ω := At 90 B6_a (fun a => L.B6 a.1 a.2.1 a.2.2.1 a.2.2.2.1 a.2.2.2.2.1 a.2.2.2.2.2.1 a.2.2.2.2.2.2.1 a.2.2.2.2.2.2.2.1 a.2.2.2.2.2.2.2.2.1 a.2.2.2.2.2.2.2.2.2.1 a.2.2.2.2.2.2.2.2.2.2.1 a.2.2.2.2.2.2.2.2.2.2.2.1 a.2.2.2.2.2.2.2.2.2.2.2.2.1 a.2.2.2.2.2.2.2.2.2.2.2.2.2.1 a.2.2.2.2.2.2.2.2.2.2.2.2.2.2) B6_r f l K next
noncomputable def B7_a : List Arg → Option (LL × LL × LL × LL × Int × Int × Int × LL × LL × Int × BA × BA × LL × BA × LL)
  | [.v (.one (.c (.row 66 x0))), .fnr 58 true 112 [.row 25 xg, .row 39 xh, .row 3 xi, .int .i64 xl, .int .i64 xm, .int .i64 xq, .row 83 ye, .row 66 yf, .int .i64 yg, .str yh, .str ya, .row 86 yb, .str yc, .row 5 yd] 0] => some (x0, xg, xh, xi, xl, xm, xq, ye, yf, yg, yh, ya, yb, yc, yd)
  | _ => none
noncomputable def B7_e (a : LL × LL × LL × LL × Int × Int × Int × LL × LL × Int × BA × BA × LL × BA × LL) : List Arg := [.v (.one (.c (C.row 66 a.1))), .fnr 58 true 112 [C.row 25 a.2.1, C.row 39 a.2.2.1, C.row 3 a.2.2.2.1, C.int .i64 a.2.2.2.2.1, C.int .i64 a.2.2.2.2.2.1, C.int .i64 a.2.2.2.2.2.2.1, C.row 83 a.2.2.2.2.2.2.2.1, C.row 66 a.2.2.2.2.2.2.2.2.1, C.int .i64 a.2.2.2.2.2.2.2.2.2.1, C.str a.2.2.2.2.2.2.2.2.2.2.1, C.str a.2.2.2.2.2.2.2.2.2.2.2.1, C.row 86 a.2.2.2.2.2.2.2.2.2.2.2.2.1, C.str a.2.2.2.2.2.2.2.2.2.2.2.2.2.1, C.row 5 a.2.2.2.2.2.2.2.2.2.2.2.2.2.2] 0]
theorem B7_ae {l : List Arg} {a : LL × LL × LL × LL × Int × Int × Int × LL × LL × Int × BA × BA × LL × BA × LL} (h : B7_a l = some a) : l = B7_e a := by
  unfold B7_a at h; split at h <;> cases h <;> rfl
noncomputable def B7_d : Res → Option Int
  | ⟨.one (.d (.int .i64 y0)), []⟩ => some y0
  | _ => none
noncomputable def B7_r (r : Int) : Res := ⟨.one (.d (.int .i64 r)), []⟩
theorem B7_dr {R : Res} {r : Int} (h : B7_d R = some r) : R = B7_r r := by
  unfold B7_d at h; split at h <;> cases h <;> rfl
noncomputable def B7_o (L : Lv) {Ω : Type} (f : FuncId) (l : List Arg) (K : Res → Option Ω) (next : Option Ω) : Option Ω := At 90 B7_a (fun a => L.B7 a.1 a.2.1 a.2.2.1 a.2.2.2.1 a.2.2.2.2.1 a.2.2.2.2.2.1 a.2.2.2.2.2.2.1 a.2.2.2.2.2.2.2.1 a.2.2.2.2.2.2.2.2.1 a.2.2.2.2.2.2.2.2.2.1 a.2.2.2.2.2.2.2.2.2.2.1 a.2.2.2.2.2.2.2.2.2.2.2.1 a.2.2.2.2.2.2.2.2.2.2.2.2.1 a.2.2.2.2.2.2.2.2.2.2.2.2.2.1 a.2.2.2.2.2.2.2.2.2.2.2.2.2.2) B7_r f l K next
noncomputable def B8_a : List Arg → Option (LL × LL × LL × LL × Int × Int × Int × LL × LL × Int × BA × BA × LL × BA × LL)
  | [.v (.one (.c (.row 25 x0))), .fnr 77 true 112 [.row 25 xg, .row 39 xh, .row 3 xi, .int .i64 xl, .int .i64 xm, .int .i64 xq, .row 83 ye, .row 66 yf, .int .i64 yg, .str yh, .str ya, .row 86 yb, .str yc, .row 5 yd] 0] => some (x0, xg, xh, xi, xl, xm, xq, ye, yf, yg, yh, ya, yb, yc, yd)
  | _ => none
noncomputable def B8_e (a : LL × LL × LL × LL × Int × Int × Int × LL × LL × Int × BA × BA × LL × BA × LL) : List Arg := [.v (.one (.c (C.row 25 a.1))), .fnr 77 true 112 [C.row 25 a.2.1, C.row 39 a.2.2.1, C.row 3 a.2.2.2.1, C.int .i64 a.2.2.2.2.1, C.int .i64 a.2.2.2.2.2.1, C.int .i64 a.2.2.2.2.2.2.1, C.row 83 a.2.2.2.2.2.2.2.1, C.row 66 a.2.2.2.2.2.2.2.2.1, C.int .i64 a.2.2.2.2.2.2.2.2.2.1, C.str a.2.2.2.2.2.2.2.2.2.2.1, C.str a.2.2.2.2.2.2.2.2.2.2.2.1, C.row 86 a.2.2.2.2.2.2.2.2.2.2.2.2.1, C.str a.2.2.2.2.2.2.2.2.2.2.2.2.2.1, C.row 5 a.2.2.2.2.2.2.2.2.2.2.2.2.2.2] 0]
theorem B8_ae {l : List Arg} {a : LL × LL × LL × LL × Int × Int × Int × LL × LL × Int × BA × BA × LL × BA × LL} (h : B8_a l = some a) : l = B8_e a := by
  unfold B8_a at h; split at h <;> cases h <;> rfl
noncomputable def B8_d : Res → Option Int
  | ⟨.one (.d (.int .i64 y0)), []⟩ => some y0
  | _ => none
noncomputable def B8_r (r : Int) : Res := ⟨.one (.d (.int .i64 r)), []⟩
theorem B8_dr {R : Res} {r : Int} (h : B8_d R = some r) : R = B8_r r := by
  unfold B8_d at h; split at h <;> cases h <;> rfl
noncomputable def B8_o (L : Lv) {Ω : Type} (f : FuncId) (l : List Arg) (K : Res → Option Ω) (next : Option Ω) : Option Ω := At 91 B8_a (fun a => L.B8 a.1 a.2.1 a.2.2.1 a.2.2.2.1 a.2.2.2.2.1 a.2.2.2.2.2.1 a.2.2.2.2.2.2.1 a.2.2.2.2.2.2.2.1 a.2.2.2.2.2.2.2.2.1 a.2.2.2.2.2.2.2.2.2.1 a.2.2.2.2.2.2.2.2.2.2.1 a.2.2.2.2.2.2.2.2.2.2.2.1 a.2.2.2.2.2.2.2.2.2.2.2.2.1 a.2.2.2.2.2.2.2.2.2.2.2.2.2.1 a.2.2.2.2.2.2.2.2.2.2.2.2.2.2) B8_r f l K next
noncomputable def Dm_a : List Arg → Option (LL × LL × LL × Int × Int × Int × LL × LL × Int × BA × BA × LL × BA × LL × Int × BA × BA × BA × LL × LL)
  | [.rop 112 [.row 25 xb, .row 39 xa, .row 3 xc, .int .i64 xd, .int .i64 xe, .int .i64 xf, .row 83 xj, .row 66 xk, .int .i64 xv, .str xw, .str xs, .row 86 xr, .str xt, .row 5 xu] 0, .v (.agg [.c (.int .i64 xg), .c (.str xh), .c (.str xi), .c (.str xl), .c (.row 66 xm), .c (.row 25 xq)])] => some (xb, xa, xc, xd, xe, xf, xj, xk, xv, xw, xs, xr, xt, xu, xg, xh, xi, xl, xm, xq)
  | _ => none
noncomputable def Dm_e (a : LL × LL × LL × Int × Int × Int × LL × LL × Int × BA × BA × LL × BA × LL × Int × BA × BA × BA × LL × LL) : List Arg := [.rop 112 [C.row 25 a.1, C.row 39 a.2.1, C.row 3 a.2.2.1, C.int .i64 a.2.2.2.1, C.int .i64 a.2.2.2.2.1, C.int .i64 a.2.2.2.2.2.1, C.row 83 a.2.2.2.2.2.2.1, C.row 66 a.2.2.2.2.2.2.2.1, C.int .i64 a.2.2.2.2.2.2.2.2.1, C.str a.2.2.2.2.2.2.2.2.2.1, C.str a.2.2.2.2.2.2.2.2.2.2.1, C.row 86 a.2.2.2.2.2.2.2.2.2.2.2.1, C.str a.2.2.2.2.2.2.2.2.2.2.2.2.1, C.row 5 a.2.2.2.2.2.2.2.2.2.2.2.2.2.1] 0, .v (.agg [.c (C.int .i64 a.2.2.2.2.2.2.2.2.2.2.2.2.2.2.1), .c (C.str a.2.2.2.2.2.2.2.2.2.2.2.2.2.2.2.1), .c (C.str a.2.2.2.2.2.2.2.2.2.2.2.2.2.2.2.2.1), .c (C.str a.2.2.2.2.2.2.2.2.2.2.2.2.2.2.2.2.2.1), .c (C.row 66 a.2.2.2.2.2.2.2.2.2.2.2.2.2.2.2.2.2.2.1), .c (C.row 25 a.2.2.2.2.2.2.2.2.2.2.2.2.2.2.2.2.2.2.2)])]
theorem Dm_ae {l : List Arg} {a : LL × LL × LL × Int × Int × Int × LL × LL × Int × BA × BA × LL × BA × LL × Int × BA × BA × BA × LL × LL} (h : Dm_a l = some a) : l = Dm_e a := by
  unfold Dm_a at h; split at h <;> cases h <;> rfl
noncomputable def Dm_d : Res → Option Bool
  | ⟨.one (.d (.bool y0)), []⟩ => some y0
  | _ => none
noncomputable def Dm_r (r : Bool) : Res := ⟨.one (.d (.bool r)), []⟩
theorem Dm_dr {R : Res} {r : Bool} (h : Dm_d R = some r) : R = Dm_r r := by
  unfold Dm_d at h; split at h <;> cases h <;> rfl
noncomputable def Dm_o (L : Lv) {Ω : Type} (f : FuncId) (l : List Arg) (K : Res → Option Ω) (next : Option Ω) : Option Ω := At 75 Dm_a (fun a => L.Dm a.1 a.2.1 a.2.2.1 a.2.2.2.1 a.2.2.2.2.1 a.2.2.2.2.2.1 a.2.2.2.2.2.2.1 a.2.2.2.2.2.2.2.1 a.2.2.2.2.2.2.2.2.1 a.2.2.2.2.2.2.2.2.2.1 a.2.2.2.2.2.2.2.2.2.2.1 a.2.2.2.2.2.2.2.2.2.2.2.1 a.2.2.2.2.2.2.2.2.2.2.2.2.1 a.2.2.2.2.2.2.2.2.2.2.2.2.2.1 a.2.2.2.2.2.2.2.2.2.2.2.2.2.2.1 a.2.2.2.2.2.2.2.2.2.2.2.2.2.2.2.1 a.2.2.2.2.2.2.2.2.2.2.2.2.2.2.2.2.1 a.2.2.2.2.2.2.2.2.2.2.2.2.2.2.2.2.2.1 a.2.2.2.2.2.2.2.2.2.2.2.2.2.2.2.2.2.2.1 a.2.2.2.2.2.2.2.2.2.2.2.2.2.2.2.2.2.2.2) Dm_r f l K next
noncomputable def Cz_a : List Arg → Option (LL × LL × LL × Int × Int × Int × LL × LL × Int × BA × BA × LL × BA × LL × Int × BA × BA × BA × LL × LL)
  | [.rop 112 [.row 25 xb, .row 39 xa, .row 3 xc, .int .i64 xd, .int .i64 xe, .int .i64 xf, .row 83 xj, .row 66 xk, .int .i64 xv, .str xw, .str xs, .row 86 xr, .str xt, .row 5 xu] 0, .v (.agg [.c (.int .i64 xg), .c (.str xh), .c (.str xi), .c (.str xl), .c (.row 66 xm), .c (.row 25 xq)])] => some (xb, xa, xc, xd, xe, xf, xj, xk, xv, xw, xs, xr, xt, xu, xg, xh, xi, xl, xm, xq)
  | _ => none
noncomputable def Cz_e (a : LL × LL × LL × Int × Int × Int × LL × LL × Int × BA × BA × LL × BA × LL × Int × BA × BA × BA × LL × LL) : List Arg := [.rop 112 [C.row 25 a.1, C.row 39 a.2.1, C.row 3 a.2.2.1, C.int .i64 a.2.2.2.1, C.int .i64 a.2.2.2.2.1, C.int .i64 a.2.2.2.2.2.1, C.row 83 a.2.2.2.2.2.2.1, C.row 66 a.2.2.2.2.2.2.2.1, C.int .i64 a.2.2.2.2.2.2.2.2.1, C.str a.2.2.2.2.2.2.2.2.2.1, C.str a.2.2.2.2.2.2.2.2.2.2.1, C.row 86 a.2.2.2.2.2.2.2.2.2.2.2.1, C.str a.2.2.2.2.2.2.2.2.2.2.2.2.1, C.row 5 a.2.2.2.2.2.2.2.2.2.2.2.2.2.1] 0, .v (.agg [.c (C.int .i64 a.2.2.2.2.2.2.2.2.2.2.2.2.2.2.1), .c (C.str a.2.2.2.2.2.2.2.2.2.2.2.2.2.2.2.1), .c (C.str a.2.2.2.2.2.2.2.2.2.2.2.2.2.2.2.2.1), .c (C.str a.2.2.2.2.2.2.2.2.2.2.2.2.2.2.2.2.2.1), .c (C.row 66 a.2.2.2.2.2.2.2.2.2.2.2.2.2.2.2.2.2.2.1), .c (C.row 25 a.2.2.2.2.2.2.2.2.2.2.2.2.2.2.2.2.2.2.2)])]
theorem Cz_ae {l : List Arg} {a : LL × LL × LL × Int × Int × Int × LL × LL × Int × BA × BA × LL × BA × LL × Int × BA × BA × BA × LL × LL} (h : Cz_a l = some a) : l = Cz_e a := by
  unfold Cz_a at h; split at h <;> cases h <;> rfl
noncomputable def Cz_d : Res → Option Bool
  | ⟨.one (.d (.bool y0)), []⟩ => some y0
  | _ => none
noncomputable def Cz_r (r : Bool) : Res := ⟨.one (.d (.bool r)), []⟩
theorem Cz_dr {R : Res} {r : Bool} (h : Cz_d R = some r) : R = Cz_r r := by
  unfold Cz_d at h; split at h <;> cases h <;> rfl
noncomputable def Cz_o (L : Lv) {Ω : Type} (f : FuncId) (l : List Arg) (K : Res → Option Ω) (next : Option Ω) : Option Ω := At 58 Cz_a (fun a => L.Cz a.1 a.2.1 a.2.2.1 a.2.2.2.1 a.2.2.2.2.1 a.2.2.2.2.2.1 a.2.2.2.2.2.2.1 a.2.2.2.2.2.2.2.1 a.2.2.2.2.2.2.2.2.1 a.2.2.2.2.2.2.2.2.2.1 a.2.2.2.2.2.2.2.2.2.2.1 a.2.2.2.2.2.2.2.2.2.2.2.1 a.2.2.2.2.2.2.2.2.2.2.2.2.1 a.2.2.2.2.2.2.2.2.2.2.2.2.2.1 a.2.2.2.2.2.2.2.2.2.2.2.2.2.2.1 a.2.2.2.2.2.2.2.2.2.2.2.2.2.2.2.1 a.2.2.2.2.2.2.2.2.2.2.2.2.2.2.2.2.1 a.2.2.2.2.2.2.2.2.2.2.2.2.2.2.2.2.2.1 a.2.2.2.2.2.2.2.2.2.2.2.2.2.2.2.2.2.2.1 a.2.2.2.2.2.2.2.2.2.2.2.2.2.2.2.2.2.2.2) Cz_r f l K next
noncomputable def De_a : List Arg → Option (LL × LL × LL × Int × Int × Int × LL × LL × Int × BA × BA × LL × BA × LL × Int × LL × LL)
  | [.rop 112 [.row 25 xb, .row 39 xa, .row 3 xc, .int .i64 xd, .int .i64 xe, .int .i64 xf, .row 83 xj, .row 66 xk, .int .i64 xv, .str xw, .str xs, .row 86 xr, .str xt, .row 5 xu] 0, .v (.agg [.c (.int .i64 xg), .c (.row 25 xh), .c (.row 66 xi)])] => some (xb, xa, xc, xd, xe, xf, xj, xk, xv, xw, xs, xr, xt, xu, xg, xh, xi)
  | _ => none
noncomputable def De_e (a : LL × LL × LL × Int × Int × Int × LL × LL × Int × BA × BA × LL × BA × LL × Int × LL × LL) : List Arg := [.rop 112 [C.row 25 a.1, C.row 39 a.2.1, C.row 3 a.2.2.1, C.int .i64 a.2.2.2.1, C.int .i64 a.2.2.2.2.1, C.int .i64 a.2.2.2.2.2.1, C.row 83 a.2.2.2.2.2.2.1, C.row 66 a.2.2.2.2.2.2.2.1, C.int .i64 a.2.2.2.2.2.2.2.2.1, C.str a.2.2.2.2.2.2.2.2.2.1, C.str a.2.2.2.2.2.2.2.2.2.2.1, C.row 86 a.2.2.2.2.2.2.2.2.2.2.2.1, C.str a.2.2.2.2.2.2.2.2.2.2.2.2.1, C.row 5 a.2.2.2.2.2.2.2.2.2.2.2.2.2.1] 0, .v (.agg [.c (C.int .i64 a.2.2.2.2.2.2.2.2.2.2.2.2.2.2.1), .c (C.row 25 a.2.2.2.2.2.2.2.2.2.2.2.2.2.2.2.1), .c (C.row 66 a.2.2.2.2.2.2.2.2.2.2.2.2.2.2.2.2)])]
theorem De_ae {l : List Arg} {a : LL × LL × LL × Int × Int × Int × LL × LL × Int × BA × BA × LL × BA × LL × Int × LL × LL} (h : De_a l = some a) : l = De_e a := by
  unfold De_a at h; split at h <;> cases h <;> rfl
noncomputable def De_d : Res → Option Bool
  | ⟨.one (.d (.bool y0)), []⟩ => some y0
  | _ => none
noncomputable def De_r (r : Bool) : Res := ⟨.one (.d (.bool r)), []⟩
theorem De_dr {R : Res} {r : Bool} (h : De_d R = some r) : R = De_r r := by
  unfold De_d at h; split at h <;> cases h <;> rfl
noncomputable def De_o (L : Lv) {Ω : Type} (f : FuncId) (l : List Arg) (K : Res → Option Ω) (next : Option Ω) : Option Ω := At 77 De_a (fun a => L.De a.1 a.2.1 a.2.2.1 a.2.2.2.1 a.2.2.2.2.1 a.2.2.2.2.2.1 a.2.2.2.2.2.2.1 a.2.2.2.2.2.2.2.1 a.2.2.2.2.2.2.2.2.1 a.2.2.2.2.2.2.2.2.2.1 a.2.2.2.2.2.2.2.2.2.2.1 a.2.2.2.2.2.2.2.2.2.2.2.1 a.2.2.2.2.2.2.2.2.2.2.2.2.1 a.2.2.2.2.2.2.2.2.2.2.2.2.2.1 a.2.2.2.2.2.2.2.2.2.2.2.2.2.2.1 a.2.2.2.2.2.2.2.2.2.2.2.2.2.2.2.1 a.2.2.2.2.2.2.2.2.2.2.2.2.2.2.2.2) De_r f l K next
noncomputable def B0_a : List Arg → Option (LL × LL × LL × Int × Int × Int × LL × LL × Int × BA × BA × LL × BA × LL × BA × BA)
  | [.rop 112 [.row 25 xb, .row 39 xa, .row 3 xc, .int .i64 xd, .int .i64 xe, .int .i64 xf, .row 83 xj, .row 66 xk, .int .i64 xv, .str xw, .str xs, .row 86 xr, .str xt, .row 5 xu] 0, .v (.agg [.c (.str xg), .c (.str xh)])] => some (xb, xa, xc, xd, xe, xf, xj, xk, xv, xw, xs, xr, xt, xu, xg, xh)
  | _ => none
noncomputable def B0_e (a : LL × LL × LL × Int × Int × Int × LL × LL × Int × BA × BA × LL × BA × LL × BA × BA) : List Arg := [.rop 112 [C.row 25 a.1, C.row 39 a.2.1, C.row 3 a.2.2.1, C.int .i64 a.2.2.2.1, C.int .i64 a.2.2.2.2.1, C.int .i64 a.2.2.2.2.2.1, C.row 83 a.2.2.2.2.2.2.1, C.row 66 a.2.2.2.2.2.2.2.1, C.int .i64 a.2.2.2.2.2.2.2.2.1, C.str a.2.2.2.2.2.2.2.2.2.1, C.str a.2.2.2.2.2.2.2.2.2.2.1, C.row 86 a.2.2.2.2.2.2.2.2.2.2.2.1, C.str a.2.2.2.2.2.2.2.2.2.2.2.2.1, C.row 5 a.2.2.2.2.2.2.2.2.2.2.2.2.2.1] 0, .v (.agg [.c (C.str a.2.2.2.2.2.2.2.2.2.2.2.2.2.2.1), .c (C.str a.2.2.2.2.2.2.2.2.2.2.2.2.2.2.2)])]
theorem B0_ae {l : List Arg} {a : LL × LL × LL × Int × Int × Int × LL × LL × Int × BA × BA × LL × BA × LL × BA × BA} (h : B0_a l = some a) : l = B0_e a := by
  unfold B0_a at h; split at h <;> cases h <;> rfl
noncomputable def B0_d : Res → Option (BA × Bool)
  | ⟨.tup [.one (.d (.str y0)), .one (.d (.bool y1))], []⟩ => some (y0, y1)
  | _ => none
noncomputable def B0_r (r : BA × Bool) : Res := ⟨.tup [.one (.d (.str r.1)), .one (.d (.bool r.2))], []⟩
theorem B0_dr {R : Res} {r : BA × Bool} (h : B0_d R = some r) : R = B0_r r := by
  unfold B0_d at h; split at h <;> cases h <;> rfl
noncomputable def B0_o (L : Lv) {Ω : Type} (f : FuncId) (l : List Arg) (K : Res → Option Ω) (next : Option Ω) : Option Ω := At 73 B0_a (fun a => L.B0 a.1 a.2.1 a.2.2.1 a.2.2.2.1 a.2.2.2.2.1 a.2.2.2.2.2.1 a.2.2.2.2.2.2.1 a.2.2.2.2.2.2.2.1 a.2.2.2.2.2.2.2.2.1 a.2.2.2.2.2.2.2.2.2.1 a.2.2.2.2.2.2.2.2.2.2.1 a.2.2.2.2.2.2.2.2.2.2.2.1 a.2.2.2.2.2.2.2.2.2.2.2.2.1 a.2.2.2.2.2.2.2.2.2.2.2.2.2.1 a.2.2.2.2.2.2.2.2.2.2.2.2.2.2.1 a.2.2.2.2.2.2.2.2.2.2.2.2.2.2.2) B0_r f l K next
noncomputable def Dd_a : List Arg → Option (LL × LL × LL × Int × Int × Int × LL × LL × Int × LL × LL)
  | [.v (.agg [.c (.row 25 xb), .c (.row 39 xa), .c (.row 3 xc), .c (.int .i64 xd), .c (.int .i64 xe), .c (.int .i64 xf), .c (.row 83 xj), .c (.row 66 xk)]), .v (.agg [.c (.int .i64 xg), .c (.row 25 xh), .c (.row 66 xi)])] => some (xb, xa, xc, xd, xe, xf, xj, xk, xg, xh, xi)
  | _ => none
noncomputable def Dd_e (a : LL × LL × LL × Int × Int × Int × LL × LL × Int × LL × LL) : List Arg := [.v (.agg [.c (C.row 25 a.1), .c (C.row 39 a.2.1), .c (C.row 3 a.2.2.1), .c (C.int .i64 a.2.2.2.1), .c (C.int .i64 a.2.2.2.2.1), .c (C.int .i64 a.2.2.2.2.2.1), .c (C.row 83 a.2.2.2.2.2.2.1), .c (C.row 66 a.2.2.2.2.2.2.2.1)]), .v (.agg [.c (C.int .i64 a.2.2.2.2.2.2.2.2.1), .c (C.row 25 a.2.2.2.2.2.2.2.2.2.1), .c (C.row 66 a.2.2.2.2.2.2.2.2.2.2)])]
theorem Dd_ae {l : List Arg} {a : LL × LL × LL × Int × Int × Int × LL × LL × Int × LL × LL} (h : Dd_a l = some a) : l = Dd_e a := by
  unfold Dd_a at h; split at h <;> cases h <;> rfl
noncomputable def Dd_d : Res → Option Int
  | ⟨.one (.d (.int .i64 y0)), []⟩ => some y0
  | _ => none
noncomputable def Dd_r (r : Int) : Res := ⟨.one (.d (.int .i64 r)), []⟩
theorem Dd_dr {R : Res} {r : Int} (h : Dd_d R = some r) : R = Dd_r r := by
  unfold Dd_d at h; split at h <;> cases h <;> rfl
noncomputable def Dd_o (L : Lv) {Ω : Type} (f : FuncId) (l : List Arg) (K : Res → Option Ω) (next : Option Ω) : Option Ω := At 92 Dd_a (fun a => L.Dd a.1 a.2.1 a.2.2.1 a.2.2.2.1 a.2.2.2.2.1 a.2.2.2.2.2.1 a.2.2.2.2.2.2.1 a.2.2.2.2.2.2.2.1 a.2.2.2.2.2.2.2.2.1 a.2.2.2.2.2.2.2.2.2.1 a.2.2.2.2.2.2.2.2.2.2) Dd_r f l K next
noncomputable def B9_a : List Arg → Option (LL × Int × LL × LL)
  | [.v (.one (.c (.row 25 x0))), .fnr 101 false 25 [.int .i64 xg, .row 25 xh, .row 66 xi] 0] => some (x0, xg, xh, xi)
  | _ => none
noncomputable def B9_e (a : LL × Int × LL × LL) : List Arg := [.v (.one (.c (C.row 25 a.1))), .fnr 101 false 25 [C.int .i64 a.2.1, C.row 25 a.2.2.1, C.row 66 a.2.2.2] 0]
theorem B9_ae {l : List Arg} {a : LL × Int × LL × LL} (h : B9_a l = some a) : l = B9_e a := by
  unfold B9_a at h; split at h <;> cases h <;> rfl
noncomputable def B9_d : Res → Option Int
  | ⟨.one (.d (.int .i64 y0)), []⟩ => some y0
  | _ => none
noncomputable def B9_r (r : Int) : Res := ⟨.one (.d (.int .i64 r)), []⟩
theorem B9_dr {R : Res} {r : Int} (h : B9_d R = some r) : R = B9_r r := by
  unfold B9_d at h; split at h <;> cases h <;> rfl
noncomputable def B9_o (L : Lv) {Ω : Type} (f : FuncId) (l : List Arg) (K : Res → Option Ω) (next : Option Ω) : Option Ω := At 91 B9_a (fun a => L.B9 a.1 a.2.1 a.2.2.1 a.2.2.2) B9_r f l K next
noncomputable def Dl_a : List Arg → Option (Int × LL × LL × Int × LL × LL)
  | [.v (.agg [.c (.int .i64 xb), .c (.row 25 xa), .c (.row 66 xc)]), .rop 25 [.int .i64 xg, .row 25 xh, .row 66 xi] 0] => some (xb, xa, xc, xg, xh, xi)
  | _ => none
noncomputable def Dl_e (a : Int × LL × LL × Int × LL × LL) : List Arg := [.v (.agg [.c (C.int .i64 a.1), .c (C.row 25 a.2.1), .c (C.row 66 a.2.2.1)]), .rop 25 [C.int .i64 a.2.2.2.1, C.row 25 a.2.2.2.2.1, C.row 66 a.2.2.2.2.2] 0]
theorem Dl_ae {l : List Arg} {a : Int × LL × LL × Int × LL × LL} (h : Dl_a l = some a) : l = Dl_e a := by
  unfold Dl_a at h; split at h <;> cases h <;> rfl
noncomputable def Dl_d : Res → Option Bool
  | ⟨.one (.d (.bool y0)), []⟩ => some y0
  | _ => none
noncomputable def Dl_r (r : Bool) : Res := ⟨.one (.d (.bool r)), []⟩
theorem Dl_dr {R : Res} {r : Bool} (h : Dl_d R = some r) : R = Dl_r r := by
  unfold Dl_d at h; split at h <;> cases h <;> rfl
noncomputable def Dl_o (L : Lv) {Ω : Type} (f : FuncId) (l : List Arg) (K : Res → Option Ω) (next : Option Ω) : Option Ω := At 101 Dl_a (fun a => L.Dl a.1 a.2.1 a.2.2.1 a.2.2.2.1 a.2.2.2.2.1 a.2.2.2.2.2) Dl_r f l K next
noncomputable def Cx_a : List Arg → Option (Int × LL × LL × Int × LL × LL)
  | [.v (.agg [.c (.int .i64 xb), .c (.row 25 xa), .c (.row 66 xc)]), .v (.agg [.c (.int .i64 xg), .c (.row 25 xh), .c (.row 66 xi)])] => some (xb, xa, xc, xg, xh, xi)
  | _ => none
noncomputable def Cx_e (a : Int × LL × LL × Int × LL × LL) : List Arg := [.v (.agg [.c (C.int .i64 a.1), .c (C.row 25 a.2.1), .c (C.row 66 a.2.2.1)]), .v (.agg [.c (C.int .i64 a.2.2.2.1), .c (C.row 25 a.2.2.2.2.1), .c (C.row 66 a.2.2.2.2.2)])]
theorem Cx_ae {l : List Arg} {a : Int × LL × LL × Int × LL × LL} (h : Cx_a l = some a) : l = Cx_e a := by
  unfold Cx_a at h; split at h <;> cases h <;> rfl
noncomputable def Cx_d : Res → Option Bool
  | ⟨.one (.d (.bool y0)), []⟩ => some y0
  | _ => none
noncomputable def Cx_r (r : Bool) : Res := ⟨.one (.d (.bool r)), []⟩
theorem Cx_dr {R : Res} {r : Bool} (h : Cx_d R = some r) : R = Cx_r r := by
  unfold Cx_d at h; split at h <;> cases h <;> rfl
noncomputable def Cx_o (L : Lv) {Ω : Type} (f : FuncId) (l : List Arg) (K : Res → Option Ω) (next : Option Ω) : Option Ω := At 102 Cx_a (fun a => L.Cx a.1 a.2.1 a.2.2.1 a.2.2.2.1 a.2.2.2.2.1 a.2.2.2.2.2) Cx_r f l K next
noncomputable def Bx_a : List Arg → Option (LL × LL)
  | [.v (.one (.c (.row 25 x0))), .v (.one (.c (.row 25 x1))), .fn 102] => some (x0, x1)
  | _ => none
noncomputable def Bx_e (a : LL × LL) : List Arg := [.v (.one (.c (C.row 25 a.1))), .v (.one (.c (C.row 25 a.2))), .fn 102]
theorem Bx_ae {l : List Arg} {a : LL × LL} (h : Bx_a l = some a) : l = Bx_e a := by
  unfold Bx_a at h; split at h <;> cases h <;> rfl
noncomputable def Bx_d : Res → Option Bool
  | ⟨.one (.d (.bool y0)), []⟩ => some y0
  | _ => none
noncomputable def Bx_r (r : Bool) : Res := ⟨.one (.d (.bool r)), []⟩
theorem Bx_dr {R : Res} {r : Bool} (h : Bx_d R = some r) : R = Bx_r r := by
  unfold Bx_d at h; split at h <;> cases h <;> rfl
noncomputable def Bx_o (L : Lv) {Ω : Type} (f : FuncId) (l : List Arg) (K : Res → Option Ω) (next : Option Ω) : Option Ω := At 108 Bx_a (fun a => L.Bx a.1 a.2) Bx_r f l K next
noncomputable def Au_a : List Arg → Option (LL × LL × LL × Int × Int × Int × LL × LL × LL)
  | [.v (.agg [.c (.row 25 xb), .c (.row 39 xa), .c (.row 3 xc), .c (.int .i64 xd), .c (.int .i64 xe), .c (.int .i64 xf), .c (.row 83 xj), .c (.row 66 xk)]), .v (.one (.c (.row 30 x1)))] => some (xb, xa, xc, xd, xe, xf, xj, xk, x1)
  | _ => none
noncomputable def Au_e (a : LL × LL × LL × Int × Int × Int × LL × LL × LL) : List Arg := [.v (.agg [.c (C.row 25 a.1), .c (C.row 39 a.2.1), .c (C.row 3 a.2.2.1), .c (C.int .i64 a.2.2.2.1), .c (C.int .i64 a.2.2.2.2.1), .c (C.int .i64 a.2.2.2.2.2.1), .c (C.row 83 a.2.2.2.2.2.2.1), .c (C.row 66 a.2.2.2.2.2.2.2.1)]), .v (.one (.c (C.row 30 a.2.2.2.2.2.2.2.2)))]
theorem Au_ae {l : List Arg} {a : LL × LL × LL × Int × Int × Int × LL × LL × LL} (h : Au_a l = some a) : l = Au_e a := by
  unfold Au_a at h; split at h <;> cases h <;> rfl
noncomputable def Au_d : Res → Option LL
  | ⟨.one (.own 44 y0), []⟩ => some y0
  | _ => none
noncomputable def Au_r (r : LL) : Res := ⟨.one (.own 44 r), []⟩
theorem Au_dr {R : Res} {r : LL} (h : Au_d R = some r) : R = Au_r r := by
  unfold Au_d at h; split at h <;> cases h <;> rfl
noncomputable def Au_o (L : Lv) {Ω : Type} (f : FuncId) (l : List Arg) (K : Res → Option Ω) (next : Option Ω) : Option Ω := At 16 Au_a (fun a => L.Au a.1 a.2.1 a.2.2.1 a.2.2.2.1 a.2.2.2.2.1 a.2.2.2.2.2.1 a.2.2.2.2.2.2.1 a.2.2.2.2.2.2.2.1 a.2.2.2.2.2.2.2.2) Au_r f l K next
noncomputable def C4_a : List Arg → Option (LL × LL × LL × Int × Int × Int × LL × LL × Int × BA × BA × LL × BA × Bool × Bool × BA × Bool × Bool × BA × LL × Int × Int × Int × Int × Int × LL)
  | [.ref 79 [.d (.row 25 xb), .d (.row 39 xa), .d (.row 3 xc), .d (.int .i64 xd), .d (.int .i64 xe), .d (.int .i64 xf), .d (.row 83 xj), .d (.row 66 xk), .d (.int .i64 xv), .d (.str xw), .d (.str xs), .d (.row 86 xr), .d (.str xt), .d (.bool xu), .d (.bool yl), .d (.str ym), .d (.bool yn), .d (.bool yo), .d (.str yp), .own 5 yk] 0, .v (.one (.c (.int .i64 x1))), .v (.agg [.c (.int .i64 xn), .c (.int .i64 xo), .c (.int .i64 xp), .c (.int .i64 yi)]), .v (.one (.c (.row 4 x3)))] => some (xb, xa, xc, xd, xe, xf, xj, xk, xv, xw, xs, xr, xt, xu, yl, ym, yn, yo, yp, yk, x1, xn, xo, xp, yi, x3)
  | _ => none
noncomputable def C4_e (a : LL × LL × LL × Int × Int × Int × LL × LL × Int × BA × BA × LL × BA × Bool × Bool × BA × Bool × Bool × BA × LL × Int × Int × Int × Int × Int × LL) : List Arg := [.ref 79 [.d (C.row 25 a.1), .d (C.row 39 a.2.1), .d (C.row 3 a.2.2.1), .d (C.int .i64 a.2.2.2.1), .d (C.int .i64 a.2.2.2.2.1), .d (C.int .i64 a.2.2.2.2.2.1), .d (C.row 83 a.2.2.2.2.2.2.1), .d (C.row 66 a.2.2.2.2.2.2.2.1), .d (C.int .i64 a.2.2.2.2.2.2.2.2.1), .d (C.str a.2.2.2.2.2.2.2.2.2.1), .d (C.str a.2.2.2.2.2.2.2.2.2.2.1), .d (C.row 86 a.2.2.2.2.2.2.2.2.2.2.2.1), .d (C.str a.2.2.2.2.2.2.2.2.2.2.2.2.1), .d (C.bool a.2.2.2.2.2.2.2.2.2.2.2.2.2.1), .d (C.bool a.2.2.2.2.2.2.2.2.2.2.2.2.2.2.1), .d (C.str a.2.2.2.2.2.2.2.2.2.2.2.2.2.2.2.1), .d (C.bool a.2.2.2.2.2.2.2.2.2.2.2.2.2.2.2.2.1), .d (C.bool a.2.2.2.2.2.2.2.2.2.2.2.2.2.2.2.2.2.1), .d (C.str a.2.2.2.2.2.2.2.2.2.2.2.2.2.2.2.2.2.2.1), .own 5 a.2.2.2.2.2.2.2.2.2.2.2.2.2.2.2.2.2.2.2.1] 0, .v (.one (.c (C.int .i64 a.2.2.2.2.2.2.2.2.2.2.2.2.2.2.2.2.2.2.2.2.1))), .v (.agg [.c (C.int .i64 a.2.2.2.2.2.2.2.2.2.2.2.2.2.2.2.2.2.2.2.2.2.1), .c (C.int .i64 a.2.2.2.2.2.2.2.2.2.2.2.2.2.2.2.2.2.2.2.2.2.2.1), .c (C.int .i64 a.2.2.2.2.2.2.2.2.2.2.2.2.2.2.2.2.2.2.2.2.2.2.2.1), .c (C.int .i64 a.2.2.2.2.2.2.2.2.2.2.2.2.2.2.2.2.2.2.2.2.2.2.2.2.1)]), .v (.one (.c (C.row 4 a.2.2.2.2.2.2.2.2.2.2.2.2.2.2.2.2.2.2.2.2.2.2.2.2.2)))]
theorem C4_ae {l : List Arg} {a : LL × LL × LL × Int × Int × Int × LL × LL × Int × BA × BA × LL × BA × Bool × Bool × BA × Bool × Bool × BA × LL × Int × Int × Int × Int × Int × LL} (h : C4_a l = some a) : l = C4_e a := by
  unfold C4_a at h; split at h <;> cases h <;> rfl
noncomputable def C4_d : Res → Option (Bool × LL × LL × LL × Int × Int × Int × LL × LL × Int × BA × BA × LL × BA × Bool × Bool × BA × Bool × Bool × BA × LL)
  | ⟨.one (.d (.bool y0)), [[.d (.row 25 y1), .d (.row 39 y2), .d (.row 3 y3), .d (.int .i64 y4), .d (.int .i64 y5), .d (.int .i64 y6), .d (.row 83 y7), .d (.row 66 y8), .d (.int .i64 y9), .d (.str yq), .d (.str yr), .d (.row 86 ys), .d (.str yt), .d (.bool yu), .d (.bool yv), .d (.str yw), .d (.bool yx), .d (.bool yy), .d (.str yz), .own 5 za]]⟩ => some (y0, y1, y2, y3, y4, y5, y6, y7, y8, y9, yq, yr, ys, yt, yu, yv, yw, yx, yy, yz, za)
  | _ => none
noncomputable def C4_r (r : Bool × LL × LL × LL × Int × Int × Int × LL × LL × Int × BA × BA × LL × BA × Bool × Bool × BA × Bool × Bool × BA × LL) : Res := ⟨.one (.d (.bool r.1)), [[.d (.row 25 r.2.1), .d (.row 39 r.2.2.1), .d (.row 3 r.2.2.2.1), .d (.int .i64 r.2.2.2.2.1), .d (.int .i64 r.2.2.2.2.2.1), .d (.int .i64 r.2.2.2.2.2.2.1), .d (.row 83 r.2.2.2.2.2.2.2.1), .d (.row 66 r.2.2.2.2.2.2.2.2.1), .d (.int .i64 r.2.2.2.2.2.2.2.2.2.1), .d (.str r.2.2.2.2.2.2.2.2.2.2.1), .d (.str r.2.2.2.2.2.2.2.2.2.2.2.1), .d (.row 86 r.2.2.2.2.2.2.2.2.2.2.2.2.1), .d (.str r.2.2.2.2.2.2.2.2.2.2.2.2.2.1), .d (.bool r.2.2.2.2.2.2.2.2.2.2.2.2.2.2.1), .d (.bool r.2.2.2.2.2.2.2.2.2.2.2.2.2.2.2.1), .d (.str r.2.2.2.2.2.2.2.2.2.2.2.2.2.2.2.2.1), .d (.bool r.2.2.2.2.2.2.2.2.2.2.2.2.2.2.2.2.2.1), .d (.bool r.2.2.2.2.2.2.2.2.2.2.2.2.2.2.2.2.2.2.1), .d (.str r.2.2.2.2.2.2.2.2.2.2.2.2.2.2.2.2.2.2.2.1), .own 5 r.2.2.2.2.2.2.2.2.2.2.2.2.2.2.2.2.2.2.2.2]]⟩
theorem C4_dr {R : Res} {r : Bool × LL × LL × LL × Int × Int × Int × LL × LL × Int × BA × BA × LL × BA × Bool × Bool × BA × Bool × Bool × BA × LL} (h : C4_d R = some r) : R = C4_r r := by
  unfold C4_d at h; split at h <;> cases h <;> rfl
noncomputable def C4_o (L : Lv) {Ω : Type} (f : FuncId) (l : List Arg) (K : Res → Option Ω) (next : Option Ω) : Option Ω := At 55 C4_a (fun a => L.C4 a.1 a.2.1 a.2.2.1 a.2.2.2.1 a.2.2.2.2.1 a.2.2.2.2.2.1 a.2.2.2.2.2.2.1 a.2.2.2.2.2.2.2.1 a.2.2.2.2.2.2.2.2.1 a.2.2.2.2.2.2.2.2.2.1 a.2.2.2.2.2.2.2.2.2.2.1 a.2.2.2.2.2.2.2.2.2.2.2.1 a.2.2.2.2.2.2.2.2.2.2.2.2.1 a.2.2.2.2.2.2.2.2.2.2.2.2.2.1 a.2.2.2.2.2.2.2.2.2.2.2.2.2.2.1 a.2.2.2.2.2.2.2.2.2.2.2.2.2.2.2.1 a.2.2.2.2.2.2.2.2.2.2.2.2.2.2.2.2.1 a.2.2.2.2.2.2.2.2.2.2.2.2.2.2.2.2.2.1 a.2.2.2.2.2.2.2.2.2.2.2.2.2.2.2.2.2.2.1 a.2.2.2.2.2.2.2.2.2.2.2.2.2.2.2.2.2.2.2.1 a.2.2.2.2.2.2.2.2.2.2.2.2.2.2.2.2.2.2.2.2.1 a.2.2.2.2.2.2.2.2.2.2.2.2.2.2.2.2.2.2.2.2.2.1 a.2.2.2.2.2.2.2.2.2.2.2.2.2.2.2.2.2.2.2.2.2.2.1 a.2.2.2.2.2.2.2.2.2.2.2.2.2.2.2.2.2.2.2.2.2.2.2.1 a.2.2.2.2.2.2.2.2.2.2.2.2.2.2.2.2.2.2.2.2.2.2.2.2.1 a.2.2.2.2.2.2.2.2.2.2.2.2.2.2.2.2.2.2.2.2.2.2.2.2.2) C4_r f l K next
noncomputable def Bw_a : List Arg → Option (LL × LL)
  | [.v (.one (.c (.row 66 x0))), .v (.one (.c (.row 66 x1))), .fn 110] => some (x0, x1)
  | _ => none
noncomputable def Bw_e (a : LL × LL) : List Arg := [.v (.one (.c (C.row 66 a.1))), .v (.one (.c (C.row 66 a.2))), .fn 110]
theorem Bw_ae {l : List Arg} {a : LL × LL} (h : Bw_a l = some a) : l = Bw_e a := by
  unfold Bw_a at h; split at h <;> cases h <;> rfl
noncomputable def Bw_d : Res → Option Bool
  | ⟨.one (.d (.bool y0)), []⟩ => some y0
  | _ => none
noncomputable def Bw_r (r : Bool) : Res := ⟨.one (.d (.bool r)), []⟩
theorem Bw_dr {R : Res} {r : Bool} (h : Bw_d R = some r) : R = Bw_r r := by
  unfold Bw_d at h; split at h <;> cases h <;> rfl
noncomputable def Bw_o (L : Lv) {Ω : Type} (f : FuncId) (l : List Arg) (K : Res → Option Ω) (next : Option Ω) : Option Ω := At 109 Bw_a (fun a => L.Bw a.1 a.2) Bw_r f l K next
noncomputable def Di_a : List Arg → Option LL
  | [.v (.one (.c (.row 30 x0)))] => some x0
  | _ => none
noncomputable def Di_e (a : LL) : List Arg := [.v (.one (.c (C.row 30 a)))]
theorem Di_ae {l : List Arg} {a : LL} (h : Di_a l = some a) : l = Di_e a := by
  unfold Di_a at h; split at h <;> cases h <;> rfl
noncomputable def Di_d : Res → Option Bool
  | ⟨.one (.d (.bool y0)), []⟩ => some y0
  | _ => none
noncomputable def Di_r (r : Bool) : Res := ⟨.one (.d (.bool r)), []⟩
theorem Di_dr {R : Res} {r : Bool} (h : Di_d R = some r) : R = Di_r r := by
  unfold Di_d at h; split at h <;> cases h <;> rfl
noncomputable def Di_o (L : Lv) {Ω : Type} (f : FuncId) (l : List Arg) (K : Res → Option Ω) (next : Option Ω) : Option Ω := At 39 Di_a (fun a => L.Di a) Di_r f l K next
noncomputable def C3_a : List Arg → Option (Bool × Bool × BA × Int)
  | [.v (.agg [.c (.bool xb), .c (.bool xa), .c (.str xc)]), .v (.one (.c (.int .i64 x1)))] => some (xb, xa, xc, x1)
  | _ => none
noncomputable def C3_e (a : Bool × Bool × BA × Int) : List Arg := [.v (.agg [.c (C.bool a.1), .c (C.bool a.2.1), .c (C.str a.2.2.1)]), .v (.one (.c (C.int .i64 a.2.2.2)))]
theorem C3_ae {l : List Arg} {a : Bool × Bool × BA × Int} (h : C3_a l = some a) : l = C3_e a := by
  unfold C3_a at h; split at h <;> cases h <;> rfl
noncomputable def C3_d : Res → Option Bool
  | ⟨.one (.d (.bool y0)), []⟩ => some y0
  | _ => none
noncomputable def C3_r (r : Bool) : Res := ⟨.one (.d (.bool r)), []⟩
theorem C3_dr {R : Res} {r : Bool} (h : C3_d R = some r) : R = C3_r r := by
  unfold C3_d at h; split at h <;> cases h <;> rfl
noncomputable def C3_o (L : Lv) {Ω : Type} (f : FuncId) (l : List Arg) (K : Res → Option Ω) (next : Option Ω) : Option Ω := At 71 C3_a (fun a => L.C3 a.1 a.2.1 a.2.2.1 a.2.2.2) C3_r f l K next
noncomputable def Dc_a : List Arg → Option (Int × BA × BA × BA × LL × LL × Int × BA × BA × BA × LL × LL)
  | [.v (.agg [.c (.int .i64 xb), .c (.str xa), .c (.str xc), .c (.str xd), .c (.row 66 xe), .c (.row 25 xf)]), .v (.agg [.c (.int .i64 xg), .c (.str xh), .c (.str xi), .c (.str xl), .c (.row 66 xm), .c (.row 25 xq)])] => some (xb, xa, xc, xd, xe, xf, xg, xh, xi, xl, xm, xq)
  | _ => none
noncomputable def Dc_e (a : Int × BA × BA × BA × LL × LL × Int × BA × BA × BA × LL × LL) : List Arg := [.v (.agg [.c (C.int .i64 a.1), .c (C.str a.2.1), .c (C.str a.2.2.1), .c (C.str a.2.2.2.1), .c (C.row 66 a.2.2.2.2.1), .c (C.row 25 a.2.2.2.2.2.1)]), .v (.agg [.c (C.int .i64 a.2.2.2.2.2.2.1), .c (C.str a.2.2.2.2.2.2.2.1), .c (C.str a.2.2.2.2.2.2.2.2.1), .c (C.str a.2.2.2.2.2.2.2.2.2.1), .c (C.row 66 a.2.2.2.2.2.2.2.2.2.2.1), .c (C.row 25 a.2.2.2.2.2.2.2.2.2.2.2)])]
theorem Dc_ae {l : List Arg} {a : Int × BA × BA × BA × LL × LL × Int × BA × BA × BA × LL × LL} (h : Dc_a l = some a) : l = Dc_e a := by
  unfold Dc_a at h; split at h <;> cases h <;> rfl
noncomputable def Dc_d : Res → Option Bool
  | ⟨.one (.d (.bool y0)), []⟩ => some y0
  | _ => none
noncomputable def Dc_r (r : Bool) : Res := ⟨.one (.d (.bool r)), []⟩
theorem Dc_dr {R : Res} {r : Bool} (h : Dc_d R = some r) : R = Dc_r r := by
  unfold Dc_d at h; split at h <;> cases h <;> rfl
noncomputable def Dc_o (L : Lv) {Ω : Type} (f : FuncId) (l : List Arg) (K : Res → Option Ω) (next : Option Ω) : Option Ω := At 110 Dc_a (fun a => L.Dc a.1 a.2.1 a.2.2.1 a.2.2.2.1 a.2.2.2.2.1 a.2.2.2.2.2.1 a.2.2.2.2.2.2.1 a.2.2.2.2.2.2.2.1 a.2.2.2.2.2.2.2.2.1 a.2.2.2.2.2.2.2.2.2.1 a.2.2.2.2.2.2.2.2.2.2.1 a.2.2.2.2.2.2.2.2.2.2.2) Dc_r f l K next
noncomputable def A5_a : List Arg → Option LL
  | [.v (.one (.c (.row 30 x0)))] => some x0
  | _ => none
noncomputable def A5_e (a : LL) : List Arg := [.v (.one (.c (C.row 30 a)))]
theorem A5_ae {l : List Arg} {a : LL} (h : A5_a l = some a) : l = A5_e a := by
  unfold A5_a at h; split at h <;> cases h <;> rfl
noncomputable def A5_d : Res → Option Bool
  | ⟨.one (.d (.bool y0)), []⟩ => some y0
  | _ => none
noncomputable def A5_r (r : Bool) : Res := ⟨.one (.d (.bool r)), []⟩
theorem A5_dr {R : Res} {r : Bool} (h : A5_d R = some r) : R = A5_r r := by
  unfold A5_d at h; split at h <;> cases h <;> rfl
noncomputable def A5_o (L : Lv) {Ω : Type} (f : FuncId) (l : List Arg) (K : Res → Option Ω) (next : Option Ω) : Option Ω := At 56 A5_a (fun a => L.A5 a) A5_r f l K next
noncomputable def Dh_a : List Arg → Option (Int × BA × BA × LL × BA)
  | [.v (.agg [.c (.int .i64 xb), .c (.str xa), .c (.str xc), .c (.row 86 xd), .c (.str xe)])] => some (xb, xa, xc, xd, xe)
  | _ => none
noncomputable def Dh_e (a : Int × BA × BA × LL × BA) : List Arg := [.v (.agg [.c (C.int .i64 a.1), .c (C.str a.2.1), .c (C.str a.2.2.1), .c (C.row 86 a.2.2.2.1), .c (C.str a.2.2.2.2)])]
theorem Dh_ae {l : List Arg} {a : Int × BA × BA × LL × BA} (h : Dh_a l = some a) : l = Dh_e a := by
  unfold Dh_a at h; split at h <;> cases h <;> rfl
noncomputable def Dh_d : Res → Option Bool
  | ⟨.one (.d (.bool y0)), []⟩ => some y0
  | _ => none
noncomputable def Dh_r (r : Bool) : Res := ⟨.one (.d (.bool r)), []⟩
theorem Dh_dr {R : Res} {r : Bool} (h : Dh_d R = some r) : R = Dh_r r := by
  unfold Dh_d at h; split at h <;> cases h <;> rfl
noncomputable def Dh_o (L : Lv) {Ω : Type} (f : FuncId) (l : List Arg) (K : Res → Option Ω) (next : Option Ω) : Option Ω := At 72 Dh_a (fun a => L.Dh a.1 a.2.1 a.2.2.1 a.2.2.2.1 a.2.2.2.2) Dh_r f l K next
noncomputable def C6_a : List Arg → Option (BA × BA)
  | [.v (.agg [.c (.str xb), .c (.str xa)])] => some (xb, xa)
  | _ => none
noncomputable def C6_e (a : BA × BA) : List Arg := [.v (.agg [.c (C.str a.1), .c (C.str a.2)])]
theorem C6_ae {l : List Arg} {a : BA × BA} (h : C6_a l = some a) : l = C6_e a := by
  unfold C6_a at h; split at h <;> cases h <;> rfl
noncomputable def C6_d : Res → Option Bool
  | ⟨.one (.d (.bool y0)), []⟩ => some y0
  | _ => none
noncomputable def C6_r (r : Bool) : Res := ⟨.one (.d (.bool r)), []⟩
theorem C6_dr {R : Res} {r : Bool} (h : C6_d R = some r) : R = C6_r r := by
  unfold C6_d at h; split at h <;> cases h <;> rfl
noncomputable def C6_o (L : Lv) {Ω : Type} (f : FuncId) (l : List Arg) (K : Res → Option Ω) (next : Option Ω) : Option Ω := At 87 C6_a (fun a => L.C6 a.1 a.2) C6_r f l K next
noncomputable def Cv_a : List Arg → Option BA
  | [.v (.one (.c (.str x0)))] => some x0
  | _ => none
noncomputable def Cv_e (a : BA) : List Arg := [.v (.one (.c (C.str a)))]
theorem Cv_ae {l : List Arg} {a : BA} (h : Cv_a l = some a) : l = Cv_e a := by
  unfold Cv_a at h; split at h <;> cases h <;> rfl
noncomputable def Cv_d : Res → Option Bool
  | ⟨.one (.d (.bool y0)), []⟩ => some y0
  | _ => none
noncomputable def Cv_r (r : Bool) : Res := ⟨.one (.d (.bool r)), []⟩
theorem Cv_dr {R : Res} {r : Bool} (h : Cv_d R = some r) : R = Cv_r r := by
  unfold Cv_d at h; split at h <;> cases h <;> rfl
noncomputable def Cv_o (L : Lv) {Ω : Type} (f : FuncId) (l : List Arg) (K : Res → Option Ω) (next : Option Ω) : Option Ω := At 89 Cv_a (fun a => L.Cv a) Cv_r f l K next
noncomputable def Br_a : List Arg → Option BA
  | [.v (.one (.c (.str x0)))] => some x0
  | _ => none
noncomputable def Br_e (a : BA) : List Arg := [.v (.one (.c (C.str a)))]
theorem Br_ae {l : List Arg} {a : BA} (h : Br_a l = some a) : l = Br_e a := by
  unfold Br_a at h; split at h <;> cases h <;> rfl
noncomputable def Br_d : Res → Option Bool
  | ⟨.one (.d (.bool y0)), []⟩ => some y0
  | _ => none
noncomputable def Br_r (r : Bool) : Res := ⟨.one (.d (.bool r)), []⟩
theorem Br_dr {R : Res} {r : Bool} (h : Br_d R = some r) : R = Br_r r := by
  unfold Br_d at h; split at h <;> cases h <;> rfl
noncomputable def Br_o (L : Lv) {Ω : Type} (f : FuncId) (l : List Arg) (K : Res → Option Ω) (next : Option Ω) : Option Ω := At 97 Br_a (fun a => L.Br a) Br_r f l K next
noncomputable def Bl_a : List Arg → Option BA
  | [.v (.one (.c (.str x0)))] => some x0
  | _ => none
noncomputable def Bl_e (a : BA) : List Arg := [.v (.one (.c (C.str a)))]
theorem Bl_ae {l : List Arg} {a : BA} (h : Bl_a l = some a) : l = Bl_e a := by
  unfold Bl_a at h; split at h <;> cases h <;> rfl
noncomputable def Bl_d : Res → Option (LL × Int × Int)
  | ⟨.tup [.one (.own 21 y0), .one (.d (.int .i64 y1)), .one (.d (.int .i64 y2))], []⟩ => some (y0, y1, y2)
  | _ => none
noncomputable def Bl_r (r : LL × Int × Int) : Res := ⟨.tup [.one (.own 21 r.1), .one (.d (.int .i64 r.2.1)), .one (.d (.int .i64 r.2.2))], []⟩
theorem Bl_dr {R : Res} {r : LL × Int × Int} (h : Bl_d R = some r) : R = Bl_r r := by
  unfold Bl_d at h; split at h <;> cases h <;> rfl
noncomputable def Bl_o (L : Lv) {Ω : Type} (f : FuncId) (l : List Arg) (K : Res → Option Ω) (next : Option Ω) : Option Ω := At 98 Bl_a (fun a => L.Bl a) Bl_r f l K next
noncomputable def C1_a : List Arg → Option Int
  | [.v (.one (.c (.int .i32 x0)))] => some x0
  | _ => none
noncomputable def C1_e (a : Int) : List Arg := [.v (.one (.c (C.int .i32 a)))]
theorem C1_ae {l : List Arg} {a : Int} (h : C1_a l = some a) : l = C1_e a := by
  unfold C1_a at h; split at h <;> cases h <;> rfl
noncomputable def C1_d : Res → Option Bool
  | ⟨.one (.d (.bool y0)), []⟩ => some y0
  | _ => none
noncomputable def C1_r (r : Bool) : Res := ⟨.one (.d (.bool r)), []⟩
theorem C1_dr {R : Res} {r : Bool} (h : C1_d R = some r) : R = C1_r r := by
  unfold C1_d at h; split at h <;> cases h <;> rfl
noncomputable def C1_o (L : Lv) {Ω : Type} (f : FuncId) (l : List Arg) (K : Res → Option Ω) (next : Option Ω) : Option Ω := At 103 C1_a (fun a => L.C1 a) C1_r f l K next
noncomputable def Ao_a : List Arg → Option (BA × Int)
  | [.v (.one (.c (.str x0))), .v (.one (.c (.int .i64 x1)))] => some (x0, x1)
  | _ => none
noncomputable def Ao_e (a : BA × Int) : List Arg := [.v (.one (.c (C.str a.1))), .v (.one (.c (C.int .i64 a.2)))]
theorem Ao_ae {l : List Arg} {a : BA × Int} (h : Ao_a l = some a) : l = Ao_e a := by
  unfold Ao_a at h; split at h <;> cases h <;> rfl
noncomputable def Ao_d : Res → Option (Int × Int × Int)
  | ⟨.tup [.one (.d (.int .i32 y0)), .one (.d (.int .i64 y1)), .one (.d (.int .i64 y2))], []⟩ => some (y0, y1, y2)
  | _ => none
noncomputable def Ao_r (r : Int × Int × Int) : Res := ⟨.tup [.one (.d (.int .i32 r.1)), .one (.d (.int .i64 r.2.1)), .one (.d (.int .i64 r.2.2))], []⟩
theorem Ao_dr {R : Res} {r : Int × Int × Int} (h : Ao_d R = some r) : R = Ao_r r := by
  unfold Ao_d at h; split at h <;> cases h <;> rfl
noncomputable def Ao_o (L : Lv) {Ω : Type} (f : FuncId) (l : List Arg) (K : Res → Option Ω) (next : Option Ω) : Option Ω := At 105 Ao_a (fun a => L.Ao a.1 a.2) Ao_r f l K next
noncomputable def Bq_a : List Arg → Option (Int × LL)
  | [.v (.one (.c (.int .i32 x0))), .v (.one (.c (.row 153 x1)))] => some (x0, x1)
  | _ => none
noncomputable def Bq_e (a : Int × LL) : List Arg := [.v (.one (.c (C.int .i32 a.1))), .v (.one (.c (C.row 153 a.2)))]
theorem Bq_ae {l : List Arg} {a : Int × LL} (h : Bq_a l = some a) : l = Bq_e a := by
  unfold Bq_a at h; split at h <;> cases h <;> rfl
noncomputable def Bq_d : Res → Option Bool
  | ⟨.one (.d (.bool y0)), []⟩ => some y0
  | _ => none
noncomputable def Bq_r (r : Bool) : Res := ⟨.one (.d (.bool r)), []⟩
theorem Bq_dr {R : Res} {r : Bool} (h : Bq_d R = some r) : R = Bq_r r := by
  unfold Bq_d at h; split at h <;> cases h <;> rfl
noncomputable def Bq_o (L : Lv) {Ω : Type} (f : FuncId) (l : List Arg) (K : Res → Option Ω) (next : Option Ω) : Option Ω := At 107 Bq_a (fun a => L.Bq a.1 a.2) Bq_r f l K next
noncomputable def Df_a : List Arg → Option Unit
  | [] => some ()
  | _ => none
noncomputable def Df_e (a : Unit) : List Arg := []
theorem Df_ae {l : List Arg} {a : Unit} (h : Df_a l = some a) : l = Df_e a := by
  unfold Df_a at h; split at h <;> cases h <;> rfl
noncomputable def Df_d : Res → Option (Int × Int × Int × Int × Int × Int × Int × Int × Int × Int × Int × Int)
  | ⟨.agg [.d (.int .u8 y0), .d (.int .u8 y1), .d (.int .i32 y2), .d (.int .u8 y3), .d (.int .u8 y4), .d (.int .i32 y5), .d (.int .u8 y6), .d (.int .u8 y7), .d (.int .i32 y8), .d (.int .u8 y9), .d (.int .u8 yq), .d (.int .i32 yr)], []⟩ => some (y0, y1, y2, y3, y4, y5, y6, y7, y8, y9, yq, yr)
  | _ => none
noncomputable def Df_r (r : Int × Int × Int × Int × Int × Int × Int × Int × Int × Int × Int × Int) : Res := ⟨.agg [.d (.int .u8 r.1), .d (.int .u8 r.2.1), .d (.int .i32 r.2.2.1), .d (.int .u8 r.2.2.2.1), .d (.int .u8 r.2.2.2.2.1), .d (.int .i32 r.2.2.2.2.2.1), .d (.int .u8 r.2.2.2.2.2.2.1), .d (.int .u8 r.2.2.2.2.2.2.2.1), .d (.int .i32 r.2.2.2.2.2.2.2.2.1), .d (.int .u8 r.2.2.2.2.2.2.2.2.2.1), .d (.int .u8 r.2.2.2.2.2.2.2.2.2.2.1), .d (.int .i32 r.2.2.2.2.2.2.2.2.2.2.2)], []⟩
theorem Df_dr {R : Res} {r : Int × Int × Int × Int × Int × Int × Int × Int × Int × Int × Int × Int} (h : Df_d R = some r) : R = Df_r r := by
  unfold Df_d at h; split at h <;> cases h <;> rfl
noncomputable def Df_o (L : Lv) {Ω : Type} (f : FuncId) (l : List Arg) (K : Res → Option Ω) (next : Option Ω) : Option Ω := At 111 Df_a (fun a => L.Df) Df_r f l K next
noncomputable def Bh_a : List Arg → Option LL
  | [.v (.one (.c (.row 30 x0)))] => some x0
  | _ => none
noncomputable def Bh_e (a : LL) : List Arg := [.v (.one (.c (C.row 30 a)))]
theorem Bh_ae {l : List Arg} {a : LL} (h : Bh_a l = some a) : l = Bh_e a := by
  unfold Bh_a at h; split at h <;> cases h <;> rfl
noncomputable def Bh_d : Res → Option LL
  | ⟨.one (.own 3 y0), []⟩ => some y0
  | _ => none
noncomputable def Bh_r (r : LL) : Res := ⟨.one (.own 3 r), []⟩
theorem Bh_dr {R : Res} {r : LL} (h : Bh_d R = some r) : R = Bh_r r := by
  unfold Bh_d at h; split at h <;> cases h <;> rfl
noncomputable def Bh_o (L : Lv) {Ω : Type} (f : FuncId) (l : List Arg) (K : Res → Option Ω) (next : Option Ω) : Option Ω := At 40 Bh_a (fun a => L.Bh a) Bh_r f l K next
noncomputable def Bv_a : List Arg → Option LL
  | [.v (.one (.c (.row 30 x0)))] => some x0
  | _ => none
noncomputable def Bv_e (a : LL) : List Arg := [.v (.one (.c (C.row 30 a)))]
theorem Bv_ae {l : List Arg} {a : LL} (h : Bv_a l = some a) : l = Bv_e a := by
  unfold Bv_a at h; split at h <;> cases h <;> rfl
noncomputable def Bv_d : Res → Option Int
  | ⟨.one (.d (.int .i64 y0)), []⟩ => some y0
  | _ => none
noncomputable def Bv_r (r : Int) : Res := ⟨.one (.d (.int .i64 r)), []⟩
theorem Bv_dr {R : Res} {r : Int} (h : Bv_d R = some r) : R = Bv_r r := by
  unfold Bv_d at h; split at h <;> cases h <;> rfl
noncomputable def Bv_o (L : Lv) {Ω : Type} (f : FuncId) (l : List Arg) (K : Res → Option Ω) (next : Option Ω) : Option Ω := At 57 Bv_a (fun a => L.Bv a) Bv_r f l K next
noncomputable def Bd_a : List Arg → Option BA
  | [.v (.one (.c (.str x0))), .v (.one (.c (.row 147 [[C.fn (some 100)]])))] => some x0
  | _ => none
noncomputable def Bd_e (a : BA) : List Arg := [.v (.one (.c (C.str a))), .v (.one (.c (C.row 147 [[C.fn (some 100)]])))]
theorem Bd_ae {l : List Arg} {a : BA} (h : Bd_a l = some a) : l = Bd_e a := by
  unfold Bd_a at h; split at h <;> cases h <;> rfl
noncomputable def Bd_d : Res → Option Bool
  | ⟨.one (.d (.bool y0)), []⟩ => some y0
  | _ => none
noncomputable def Bd_r (r : Bool) : Res := ⟨.one (.d (.bool r)), []⟩
theorem Bd_dr {R : Res} {r : Bool} (h : Bd_d R = some r) : R = Bd_r r := by
  unfold Bd_d at h; split at h <;> cases h <;> rfl
noncomputable def Bd_o (L : Lv) {Ω : Type} (f : FuncId) (l : List Arg) (K : Res → Option Ω) (next : Option Ω) : Option Ω := At 99 Bd_a (fun a => L.Bd a) Bd_r f l K next
noncomputable def Dg_a : List Arg → Option (Int × Int)
  | [.v (.one (.c (.int .i32 x0))), .v (.one (.c (.int .i64 x1)))] => some (x0, x1)
  | _ => none
noncomputable def Dg_e (a : Int × Int) : List Arg := [.v (.one (.c (C.int .i32 a.1))), .v (.one (.c (C.int .i64 a.2)))]
theorem Dg_ae {l : List Arg} {a : Int × Int} (h : Dg_a l = some a) : l = Dg_e a := by
  unfold Dg_a at h; split at h <;> cases h <;> rfl
noncomputable def Dg_d : Res → Option (Int × Int)
  | ⟨.tup [.one (.d (.int .i32 y0)), .one (.d (.int .i32 y1))], []⟩ => some (y0, y1)
  | _ => none
noncomputable def Dg_r (r : Int × Int) : Res := ⟨.tup [.one (.d (.int .i32 r.1)), .one (.d (.int .i32 r.2))], []⟩
theorem Dg_dr {R : Res} {r : Int × Int} (h : Dg_d R = some r) : R = Dg_r r := by
  unfold Dg_d at h; split at h <;> cases h <;> rfl
noncomputable def Dg_o (L : Lv) {Ω : Type} (f : FuncId) (l : List Arg) (K : Res → Option Ω) (next : Option Ω) : Option Ω := At 112 Dg_a (fun a => L.Dg a.1 a.2) Dg_r f l K next
noncomputable def C8_a : List Arg → Option Int
  | [.v (.one (.c (.int .i32 x0)))] => some x0
  | _ => none
noncomputable def C8_e (a : Int) : List Arg := [.v (.one (.c (C.int .i32 a)))]
theorem C8_ae {l : List Arg} {a : Int} (h : C8_a l = some a) : l = C8_e a := by
  unfold C8_a at h; split at h <;> cases h <;> rfl
noncomputable def C8_d : Res → Option Bool
  | ⟨.one (.d (.bool y0)), []⟩ => some y0
  | _ => none
noncomputable def C8_r (r : Bool) : Res := ⟨.one (.d (.bool r)), []⟩
theorem C8_dr {R : Res} {r : Bool} (h : C8_d R = some r) : R = C8_r r := by
  unfold C8_d at h; split at h <;> cases h <;> rfl
noncomputable def C8_o (L : Lv) {Ω : Type} (f : FuncId) (l : List Arg) (K : Res → Option Ω) (next : Option Ω) : Option Ω := At 100 C8_a (fun a => L.C8 a) C8_r f l K next
noncomputable def C7_a : List Arg → Option Int
  | [.v (.one (.c (.int .i32 x0)))] => some x0
  | _ => none
noncomputable def C7_e (a : Int) : List Arg := [.v (.one (.c (C.int .i32 a)))]
theorem C7_ae {l : List Arg} {a : Int} (h : C7_a l = some a) : l = C7_e a := by
  unfold C7_a at h; split at h <;> cases h <;> rfl
noncomputable def C7_d : Res → Option Bool
  | ⟨.one (.d (.bool y0)), []⟩ => some y0
  | _ => none
noncomputable def C7_r (r : Bool) : Res := ⟨.one (.d (.bool r)), []⟩
theorem C7_dr {R : Res} {r : Bool} (h : C7_d R = some r) : R = C7_r r := by
  unfold C7_d at h; split at h <;> cases h <;> rfl
noncomputable def C7_o (L : Lv) {Ω : Type} (f : FuncId) (l : List Arg) (K : Res → Option Ω) (next : Option Ω) : Option Ω := At 106 C7_a (fun a => L.C7 a) C7_r f l K next
noncomputable def Cw_a : List Arg → Option (LL × LL × LL × Int × Int × Int × LL × LL × Int × Int × Int × LL × LL × Int × BA × BA × LL × BA × Bool × Bool × BA × LL)
  | [.v (.agg [.c (.row 25 xb), .c (.row 39 xa), .c (.row 3 xc), .c (.int .i64 xd), .c (.int .i64 xe), .c (.int .i64 xf), .c (.row 83 xj), .c (.row 66 xk)]), .v (.agg [.c (.int .i64 xg), .c (.int .i64 xh), .c (.int .i64 xi), .c (.row 83 xl), .c (.row 66 xm)]), .v (.agg [.c (.int .i64 xn), .c (.str xo), .c (.str xp), .c (.row 86 yi), .c (.str yj)]), .v (.agg [.c (.bool xx), .c (.bool xy), .c (.str xz)]), .v (.one (.c (.row 4 x4)))] => some (xb, xa, xc, xd, xe, xf, xj, xk, xg, xh, xi, xl, xm, xn, xo, xp, yi, yj, xx, xy, xz, x4)
  | _ => none
noncomputable def Cw_e (a : LL × LL × LL × Int × Int × Int × LL × LL × Int × Int × Int × LL × LL × Int × BA × BA × LL × BA × Bool × Bool × BA × LL) : List Arg := [.v (.agg [.c (C.row 25 a.1), .c (C.row 39 a.2.1), .c (C.row 3 a.2.2.1), .c (C.int .i64 a.2.2.2.1), .c (C.int .i64 a.2.2.2.2.1), .c (C.int .i64 a.2.2.2.2.2.1), .c (C.row 83 a.2.2.2.2.2.2.1), .c (C.row 66 a.2.2.2.2.2.2.2.1)]), .v (.agg [.c (C.int .i64 a.2.2.2.2.2.2.2.2.1), .c (C.int .i64 a.2.2.2.2.2.2.2.2.2.1), .c (C.int .i64 a.2.2.2.2.2.2.2.2.2.2.1), .c (C.row 83 a.2.2.2.2.2.2.2.2.2.2.2.1), .c (C.row 66 a.2.2.2.2.2.2.2.2.2.2.2.2.1)]), .v (.agg [.c (C.int .i64 a.2.2.2.2.2.2.2.2.2.2.2.2.2.1), .c (C.str a.2.2.2.2.2.2.2.2.2.2.2.2.2.2.1), .c (C.str a.2.2.2.2.2.2.2.2.2.2.2.2.2.2.2.1), .c (C.row 86 a.2.2.2.2.2.2.2.2.2.2.2.2.2.2.2.2.1), .c (C.str a.2.2.2.2.2.2.2.2.2.2.2.2.2.2.2.2.2.1)]), .v (.agg [.c (C.bool a.2.2.2.2.2.2.2.2.2.2.2.2.2.2.2.2.2.2.1), .c (C.bool a.2.2.2.2.2.2.2.2.2.2.2.2.2.2.2.2.2.2.2.1), .c (C.str a.2.2.2.2.2.2.2.2.2.2.2.2.2.2.2.2.2.2.2.2.1)]), .v (.one (.c (C.row 4 a.2.2.2.2.2.2.2.2.2.2.2.2.2.2.2.2.2.2.2.2.2)))]
theorem Cw_ae {l : List Arg} {a : LL × LL × LL × Int × Int × Int × LL × LL × Int × Int × Int × LL × LL × Int × BA × BA × LL × BA × Bool × Bool × BA × LL} (h : Cw_a l = some a) : l = Cw_e a := by
  unfold Cw_a at h; split at h <;> cases h <;> rfl
noncomputable def Cw_d : Res → Option LL
  | ⟨.one (.own 4 y0), []⟩ => some y0
  | _ => none
noncomputable def Cw_r (r : LL) : Res := ⟨.one (.own 4 r), []⟩
theorem Cw_dr {R : Res} {r : LL} (h : Cw_d R = some r) : R = Cw_r r := by
  unfold Cw_d at h; split at h <;> cases h <;> rfl
noncomputable def Cw_o (L : Lv) {Ω : Type} (f : FuncId) (l : List Arg) (K : Res → Option Ω) (next : Option Ω) : Option Ω := At 20 Cw_a (fun a => L.Cw a.1 a.2.1 a.2.2.1 a.2.2.2.1 a.2.2.2.2.1 a.2.2.2.2.2.1 a.2.2.2.2.2.2.1 a.2.2.2.2.2.2.2.1 a.2.2.2.2.2.2.2.2.1 a.2.2.2.2.2.2.2.2.2.1 a.2.2.2.2.2.2.2.2.2.2.1 a.2.2.2.2.2.2.2.2.2.2.2.1 a.2.2.2.2.2.2.2.2.2.2.2.2.1 a.2.2.2.2.2.2.2.2.2.2.2.2.2.1 a.2.2.2.2.2.2.2.2.2.2.2.2.2.2.1 a.2.2.2.2.2.2.2.2.2.2.2.2.2.2.2.1 a.2.2.2.2.2.2.2.2.2.2.2.2.2.2.2.2.1 a.2.2.2.2.2.2.2.2.2.2.2.2.2.2.2.2.2.1 a.2.2.2.2.2.2.2.2.2.2.2.2.2.2.2.2.2.2.1 a.2.2.2.2.2.2.2.2.2.2.2.2.2.2.2.2.2.2.2.1 a.2.2.2.2.2.2.2.2.2.2.2.2.2.2.2.2.2.2.2.2.1 a.2.2.2.2.2.2.2.2.2.2.2.2.2.2.2.2.2.2.2.2.2) Cw_r f l K next
noncomputable def B5_a : List Arg → Option LL
  | [.v (.one (.c (.row 86 x0)))] => some x0
  | _ => none
noncomputable def B5_e (a : LL) : List Arg := [.v (.one (.c (C.row 86 a)))]
theorem B5_ae {l : List Arg} {a : LL} (h : B5_a l = some a) : l = B5_e a := by
  unfold B5_a at h; split at h <;> cases h <;> rfl
noncomputable def B5_d : Res → Option Bool
  | ⟨.one (.d (.bool y0)), []⟩ => some y0
  | _ => none
noncomputable def B5_r (r : Bool) : Res := ⟨.one (.d (.bool r)), []⟩
theorem B5_dr {R : Res} {r : Bool} (h : B5_d R = some r) : R = B5_r r := by
  unfold B5_d at h; split at h <;> cases h <;> rfl
noncomputable def B5_o (L : Lv) {Ω : Type} (f : FuncId) (l : List Arg) (K : Res → Option Ω) (next : Option Ω) : Option Ω := At 88 B5_a (fun a => L.B5 a) B5_r f l K next
noncomputable def C0_a : List Arg → Option Int
  | [.v (.one (.c (.int .i32 x0)))] => some x0
  | _ => none
noncomputable def C0_e (a : Int) : List Arg := [.v (.one (.c (C.int .i32 a)))]
theorem C0_ae {l : List Arg} {a : Int} (h : C0_a l = some a) : l = C0_e a := by
  unfold C0_a at h; split at h <;> cases h <;> rfl
noncomputable def C0_d : Res → Option Bool
  | ⟨.one (.d (.bool y0)), []⟩ => some y0
  | _ => none
noncomputable def C0_r (r : Bool) : Res := ⟨.one (.d (.bool r)), []⟩
theorem C0_dr {R : Res} {r : Bool} (h : C0_d R = some r) : R = C0_r r := by
  unfold C0_d at h; split at h <;> cases h <;> rfl
noncomputable def C0_o (L : Lv) {Ω : Type} (f : FuncId) (l : List Arg) (K : Res → Option Ω) (next : Option Ω) : Option Ω := At 104 C0_a (fun a => L.C0 a) C0_r f l K next
noncomputable def Da_a : List Arg → Option (Int × LL × LL)
  | [.v (.agg [.c (.int .i64 xb), .c (.row 25 xa), .c (.row 66 xc)])] => some (xb, xa, xc)
  | _ => none
noncomputable def Da_e (a : Int × LL × LL) : List Arg := [.v (.agg [.c (C.int .i64 a.1), .c (C.row 25 a.2.1), .c (C.row 66 a.2.2)])]
theorem Da_ae {l : List Arg} {a : Int × LL × LL} (h : Da_a l = some a) : l = Da_e a := by
  unfold Da_a at h; split at h <;> cases h <;> rfl
noncomputable def Da_d : Res → Option Bool
  | ⟨.one (.d (.bool y0)), []⟩ => some y0
  | _ => none
noncomputable def Da_r (r : Bool) : Res := ⟨.one (.d (.bool r)), []⟩
theorem Da_dr {R : Res} {r : Bool} (h : Da_d R = some r) : R = Da_r r := by
  unfold Da_d at h; split at h <;> cases h <;> rfl
noncomputable def Da_o (L : Lv) {Ω : Type} (f : FuncId) (l : List Arg) (K : Res → Option Ω) (next : Option Ω) : Option Ω := At 9 Da_a (fun a => L.Da a.1 a.2.1 a.2.2) Da_r f l K next
noncomputable def Dk_a : List Arg → Option (Int × LL × LL)
  | [.v (.agg [.c (.int .i64 xb), .c (.row 25 xa), .c (.row 66 xc)])] => some (xb, xa, xc)
  | _ => none
noncomputable def Dk_e (a : Int × LL × LL) : List Arg := [.v (.agg [.c (C.int .i64 a.1), .c (C.row 25 a.2.1), .c (C.row 66 a.2.2)])]
theorem Dk_ae {l : List Arg} {a : Int × LL × LL} (h : Dk_a l = some a) : l = Dk_e a := by
  unfold Dk_a at h; split at h <;> cases h <;> rfl
noncomputable def Dk_d : Res → Option Int
  | ⟨.one (.d (.int .i64 y0)), []⟩ => some y0
  | _ => none
noncomputable def Dk_r (r : Int) : Res := ⟨.one (.d (.int .i64 r)), []⟩
theorem Dk_dr {R : Res} {r : Int} (h : Dk_d R = some r) : R = Dk_r r := by
  unfold Dk_d at h; split at h <;> cases h <;> rfl
noncomputable def Dk_o (L : Lv) {Ω : Type} (f : FuncId) (l : List Arg) (K : Res → Option Ω) (next : Option Ω) : Option Ω := At 28 Dk_a (fun a => L.Dk a.1 a.2.1 a.2.2) Dk_r f l K next
noncomputable def Bb_a : List Arg → Option (Int × LL × LL × Int)
  | [.v (.agg [.c (.int .i64 xb), .c (.row 25 xa), .c (.row 66 xc)]), .v (.one (.c (.int .i64 x1)))] => some (xb, xa, xc, x1)
  | _ => none
noncomputable def Bb_e (a : Int × LL × LL × Int) : List Arg := [.v (.agg [.c (C.int .i64 a.1), .c (C.row 25 a.2.1), .c (C.row 66 a.2.2.1)]), .v (.one (.c (C.int .i64 a.2.2.2)))]
theorem Bb_ae {l : List Arg} {a : Int × LL × LL × Int} (h : Bb_a l = some a) : l = Bb_e a := by
  unfold Bb_a at h; split at h <;> cases h <;> rfl
noncomputable def Bb_d : Res → Option Int
  | ⟨.one (.d (.int .i64 y0)), []⟩ => some y0
  | _ => none
noncomputable def Bb_r (r : Int) : Res := ⟨.one (.d (.int .i64 r)), []⟩
theorem Bb_dr {R : Res} {r : Int} (h : Bb_d R = some r) : R = Bb_r r := by
  unfold Bb_d at h; split at h <;> cases h <;> rfl
noncomputable def Bb_o (L : Lv) {Ω : Type} (f : FuncId) (l : List Arg) (K : Res → Option Ω) (next : Option Ω) : Option Ω := At 48 Bb_a (fun a => L.Bb a.1 a.2.1 a.2.2.1 a.2.2.2) Bb_r f l K next
noncomputable def Bg_a : List Arg → Option (Int × BA × BA × BA × LL × LL × Int)
  | [.v (.agg [.c (.int .i64 xb), .c (.str xa), .c (.str xc), .c (.str xd), .c (.row 66 xe), .c (.row 25 xf)]), .v (.one (.c (.int .i64 x1)))] => some (xb, xa, xc, xd, xe, xf, x1)
  | _ => none
noncomputable def Bg_e (a : Int × BA × BA × BA × LL × LL × Int) : List Arg := [.v (.agg [.c (C.int .i64 a.1), .c (C.str a.2.1), .c (C.str a.2.2.1), .c (C.str a.2.2.2.1), .c (C.row 66 a.2.2.2.2.1), .c (C.row 25 a.2.2.2.2.2.1)]), .v (.one (.c (C.int .i64 a.2.2.2.2.2.2)))]
theorem Bg_ae {l : List Arg} {a : Int × BA × BA × BA × LL × LL × Int} (h : Bg_a l = some a) : l = Bg_e a := by
  unfold Bg_a at h; split at h <;> cases h <;> rfl
noncomputable def Bg_d : Res → Option Int
  | ⟨.one (.d (.int .i64 y0)), []⟩ => some y0
  | _ => none
noncomputable def Bg_r (r : Int) : Res := ⟨.one (.d (.int .i64 r)), []⟩
theorem Bg_dr {R : Res} {r : Int} (h : Bg_d R = some r) : R = Bg_r r := by
  unfold Bg_d at h; split at h <;> cases h <;> rfl
noncomputable def Bg_o (L : Lv) {Ω : Type} (f : FuncId) (l : List Arg) (K : Res → Option Ω) (next : Option Ω) : Option Ω := At 64 Bg_a (fun a => L.Bg a.1 a.2.1 a.2.2.1 a.2.2.2.1 a.2.2.2.2.1 a.2.2.2.2.2.1 a.2.2.2.2.2.2) Bg_r f l K next
noncomputable def A8_a : List Arg → Option (Int × LL × LL × Int)
  | [.v (.agg [.c (.int .i64 xb), .c (.row 25 xa), .c (.row 66 xc)]), .v (.one (.c (.int .i64 x1)))] => some (xb, xa, xc, x1)
  | _ => none
noncomputable def A8_e (a : Int × LL × LL × Int) : List Arg := [.v (.agg [.c (C.int .i64 a.1), .c (C.row 25 a.2.1), .c (C.row 66 a.2.2.1)]), .v (.one (.c (C.int .i64 a.2.2.2)))]
theorem A8_ae {l : List Arg} {a : Int × LL × LL × Int} (h : A8_a l = some a) : l = A8_e a := by
  unfold A8_a at h; split at h <;> cases h <;> rfl
noncomputable def A8_d : Res → Option Bool
  | ⟨.one (.d (.bool y0)), []⟩ => some y0
  | _ => none
noncomputable def A8_r (r : Bool) : Res := ⟨.one (.d (.bool r)), []⟩
theorem A8_dr {R : Res} {r : Bool} (h : A8_d R = some r) : R = A8_r r := by
  unfold A8_d at h; split at h <;> cases h <;> rfl
noncomputable def A8_o (L : Lv) {Ω : Type} (f : FuncId) (l : List Arg) (K : Res → Option Ω) (next : Option Ω) : Option Ω := At 29 A8_a (fun a => L.A8 a.1 a.2.1 a.2.2.1 a.2.2.2) A8_r f l K next
noncomputable def Aj_a : List Arg → Option (Int × BA × BA × BA × LL × LL × Int)
  | [.v (.agg [.c (.int .i64 xb), .c (.str xa), .c (.str xc), .c (.str xd), .c (.row 66 xe), .c (.row 25 xf)]), .v (.one (.c (.int .i64 x1)))] => some (xb, xa, xc, xd, xe, xf, x1)
  | _ => none
noncomputable def Aj_e (a : Int × BA × BA × BA × LL × LL × Int) : List Arg := [.v (.agg [.c (C.int .i64 a.1), .c (C.str a.2.1), .c (C.str a.2.2.1), .c (C.str a.2.2.2.1), .c (C.row 66 a.2.2.2.2.1), .c (C.row 25 a.2.2.2.2.2.1)]), .v (.one (.c (C.int .i64 a.2.2.2.2.2.2)))]
theorem Aj_ae {l : List Arg} {a : Int × BA × BA × BA × LL × LL × Int} (h : Aj_a l = some a) : l = Aj_e a := by
  unfold Aj_a at h; split at h <;> cases h <;> rfl
noncomputable def Aj_d : Res → Option Bool
  | ⟨.one (.d (.bool y0)), []⟩ => some y0
  | _ => none
noncomputable def Aj_r (r : Bool) : Res := ⟨.one (.d (.bool r)), []⟩
theorem Aj_dr {R : Res} {r : Bool} (h : Aj_d R = some r) : R = Aj_r r := by
  unfold Aj_d at h; split at h <;> cases h <;> rfl
noncomputable def Aj_o (L : Lv) {Ω : Type} (f : FuncId) (l : List Arg) (K : Res → Option Ω) (next : Option Ω) : Option Ω := At 49 Aj_a (fun a => L.Aj a.1 a.2.1 a.2.2.1 a.2.2.2.1 a.2.2.2.2.1 a.2.2.2.2.2.1 a.2.2.2.2.2.2) Aj_r f l K next
noncomputable def Db_a : List Arg → Option (BA × BA)
  | [.v (.agg [.c (.str xb), .c (.str xa)])] => some (xb, xa)
  | _ => none
noncomputable def Db_e (a : BA × BA) : List Arg := [.v (.agg [.c (C.str a.1), .c (C.str a.2)])]
theorem Db_ae {l : List Arg} {a : BA × BA} (h : Db_a l = some a) : l = Db_e a := by
  unfold Db_a at h; split at h <;> cases h <;> rfl
noncomputable def Db_d : Res → Option Bool
  | ⟨.one (.d (.bool y0)), []⟩ => some y0
  | _ => none
noncomputable def Db_r (r : Bool) : Res := ⟨.one (.d (.bool r)), []⟩
theorem Db_dr {R : Res} {r : Bool} (h : Db_d R = some r) : R = Db_r r := by
  unfold Db_d at h; split at h <;> cases h <;> rfl
noncomputable def Db_o (L : Lv) {Ω : Type} (f : FuncId) (l : List Arg) (K : Res → Option Ω) (next : Option Ω) : Option Ω := At 65 Db_a (fun a => L.Db a.1 a.2) Db_r f l K next
noncomputable def A9_a : List Arg → Option BA
  | [.v (.one (.c (.str x0)))] => some x0
  | _ => none
noncomputable def A9_e (a : BA) : List Arg := [.v (.one (.c (C.str a)))]
theorem A9_ae {l : List Arg} {a : BA} (h : A9_a l = some a) : l = A9_e a := by
  unfold A9_a at h; split at h <;> cases h <;> rfl
noncomputable def A9_d : Res → Option Bool
  | ⟨.one (.d (.bool y0)), []⟩ => some y0
  | _ => none
noncomputable def A9_r (r : Bool) : Res := ⟨.one (.d (.bool r)), []⟩
theorem A9_dr {R : Res} {r : Bool} (h : A9_d R = some r) : R = A9_r r := by
  unfold A9_d at h; split at h <;> cases h <;> rfl
noncomputable def A9_o (L : Lv) {Ω : Type} (f : FuncId) (l : List Arg) (K : Res → Option Ω) (next : Option Ω) : Option Ω := At 50 A9_a (fun a => L.A9 a) A9_r f l K next
noncomputable def Bm_a : List Arg → Option BA
  | [.v (.one (.c (.str x0)))] => some x0
  | _ => none
noncomputable def Bm_e (a : BA) : List Arg := [.v (.one (.c (C.str a)))]
theorem Bm_ae {l : List Arg} {a : BA} (h : Bm_a l = some a) : l = Bm_e a := by
  unfold Bm_a at h; split at h <;> cases h <;> rfl
noncomputable def Bm_d : Res → Option Bool
  | ⟨.one (.d (.bool y0)), []⟩ => some y0
  | _ => none
noncomputable def Bm_r (r : Bool) : Res := ⟨.one (.d (.bool r)), []⟩
theorem Bm_dr {R : Res} {r : Bool} (h : Bm_d R = some r) : R = Bm_r r := by
  unfold Bm_d at h; split at h <;> cases h <;> rfl
noncomputable def Bm_o (L : Lv) {Ω : Type} (f : FuncId) (l : List Arg) (K : Res → Option Ω) (next : Option Ω) : Option Ω := At 68 Bm_a (fun a => L.Bm a) Bm_r f l K next
noncomputable def A6_a : List Arg → Option BA
  | [.v (.one (.c (.str x0)))] => some x0
  | _ => none
noncomputable def A6_e (a : BA) : List Arg := [.v (.one (.c (C.str a)))]
theorem A6_ae {l : List Arg} {a : BA} (h : A6_a l = some a) : l = A6_e a := by
  unfold A6_a at h; split at h <;> cases h <;> rfl
noncomputable def A6_d : Res → Option (LL × Int × Int)
  | ⟨.tup [.one (.own 21 y0), .one (.d (.int .i64 y1)), .one (.d (.int .i64 y2))], []⟩ => some (y0, y1, y2)
  | _ => none
noncomputable def A6_r (r : LL × Int × Int) : Res := ⟨.tup [.one (.own 21 r.1), .one (.d (.int .i64 r.2.1)), .one (.d (.int .i64 r.2.2))], []⟩
theorem A6_dr {R : Res} {r : LL × Int × Int} (h : A6_d R = some r) : R = A6_r r := by
  unfold A6_d at h; split at h <;> cases h <;> rfl
noncomputable def A6_o (L : Lv) {Ω : Type} (f : FuncId) (l : List Arg) (K : Res → Option Ω) (next : Option Ω) : Option Ω := At 66 A6_a (fun a => L.A6 a) A6_r f l K next
noncomputable def Cj_a : List Arg → Option Int
  | [.v (.one (.c (.int .i64 x0)))] => some x0
  | _ => none
noncomputable def Cj_e (a : Int) : List Arg := [.v (.one (.c (C.int .i64 a)))]
theorem Cj_ae {l : List Arg} {a : Int} (h : Cj_a l = some a) : l = Cj_e a := by
  unfold Cj_a at h; split at h <;> cases h <;> rfl
noncomputable def Cj_d : Res → Option Bool
  | ⟨.one (.d (.bool y0)), []⟩ => some y0
  | _ => none
noncomputable def Cj_r (r : Bool) : Res := ⟨.one (.d (.bool r)), []⟩
theorem Cj_dr {R : Res} {r : Bool} (h : Cj_d R = some r) : R = Cj_r r := by
  unfold Cj_d at h; split at h <;> cases h <;> rfl
noncomputable def Cj_o (L : Lv) {Ω : Type} (f : FuncId) (l : List Arg) (K : Res → Option Ω) (next : Option Ω) : Option Ω := At 85 Cj_a (fun a => L.Cj a) Cj_r f l K next
noncomputable def A7_a : List Arg → Option (BA × Int)
  | [.v (.one (.c (.str x0))), .v (.one (.c (.int .i64 x1)))] => some (x0, x1)
  | _ => none
noncomputable def A7_e (a : BA × Int) : List Arg := [.v (.one (.c (C.str a.1))), .v (.one (.c (C.int .i64 a.2)))]
theorem A7_ae {l : List Arg} {a : BA × Int} (h : A7_a l = some a) : l = A7_e a := by
  unfold A7_a at h; split at h <;> cases h <;> rfl
noncomputable def A7_d : Res → Option (Int × Int × Int)
  | ⟨.tup [.one (.d (.int .i64 y0)), .one (.d (.int .i64 y1)), .one (.d (.int .i64 y2))], []⟩ => some (y0, y1, y2)
  | _ => none
noncomputable def A7_r (r : Int × Int × Int) : Res := ⟨.tup [.one (.d (.int .i64 r.1)), .one (.d (.int .i64 r.2.1)), .one (.d (.int .i64 r.2.2))], []⟩
theorem A7_dr {R : Res} {r : Int × Int × Int} (h : A7_d R = some r) : R = A7_r r := by
  unfold A7_d at h; split at h <;> cases h <;> rfl
noncomputable def A7_o (L : Lv) {Ω : Type} (f : FuncId) (l : List Arg) (K : Res → Option Ω) (next : Option Ω) : Option Ω := At 83 A7_a (fun a => L.A7 a.1 a.2) A7_r f l K next
noncomputable def Cb_a : List Arg → Option Int
  | [.v (.one (.c (.int .i64 x0)))] => some x0
  | _ => none
noncomputable def Cb_e (a : Int) : List Arg := [.v (.one (.c (C.int .i64 a)))]
theorem Cb_ae {l : List Arg} {a : Int} (h : Cb_a l = some a) : l = Cb_e a := by
  unfold Cb_a at h; split at h <;> cases h <;> rfl
noncomputable def Cb_d : Res → Option LL
  | ⟨.one (.own 5 y0), []⟩ => some y0
  | _ => none
noncomputable def Cb_r (r : LL) : Res := ⟨.one (.own 5 r), []⟩
theorem Cb_dr {R : Res} {r : LL} (h : Cb_d R = some r) : R = Cb_r r := by
  unfold Cb_d at h; split at h <;> cases h <;> rfl
noncomputable def Cb_o (L : Lv) {Ω : Type} (f : FuncId) (l : List Arg) (K : Res → Option Ω) (next : Option Ω) : Option Ω := At 94 Cb_a (fun a => L.Cb a) Cb_r f l K next
noncomputable def Ae_a : List Arg → Option (BA × Int)
  | [.v (.one (.c (.str x0))), .v (.one (.c (.int .i64 x1)))] => some (x0, x1)
  | _ => none
noncomputable def Ae_e (a : BA × Int) : List Arg := [.v (.one (.c (C.str a.1))), .v (.one (.c (C.int .i64 a.2)))]
theorem Ae_ae {l : List Arg} {a : BA × Int} (h : Ae_a l = some a) : l = Ae_e a := by
  unfold Ae_a at h; split at h <;> cases h <;> rfl
noncomputable def Ae_d : Res → Option Bool
  | ⟨.one (.d (.bool y0)), []⟩ => some y0
  | _ => none
noncomputable def Ae_r (r : Bool) : Res := ⟨.one (.d (.bool r)), []⟩
theorem Ae_dr {R : Res} {r : Bool} (h : Ae_d R = some r) : R = Ae_r r := by
  unfold Ae_d at h; split at h <;> cases h <;> rfl
noncomputable def Ae_o (L : Lv) {Ω : Type} (f : FuncId) (l : List Arg) (K : Res → Option Ω) (next : Option Ω) : Option Ω := At 96 Ae_a (fun a => L.Ae a.1 a.2) Ae_r f l K next
noncomputable def An_a : List Arg → Option (BA × Int × Int)
  | [.v (.one (.c (.str x0))), .v (.one (.c (.int .i64 x1))), .v (.one (.c (.int .i64 x2)))] => some (x0, x1, x2)
  | _ => none
noncomputable def An_e (a : BA × Int × Int) : List Arg := [.v (.one (.c (C.str a.1))), .v (.one (.c (C.int .i64 a.2.1))), .v (.one (.c (C.int .i64 a.2.2)))]
theorem An_ae {l : List Arg} {a : BA × Int × Int} (h : An_a l = some a) : l = An_e a := by
  unfold An_a at h; split at h <;> cases h <;> rfl
noncomputable def An_d : Res → Option Int
  | ⟨.one (.d (.int .i64 y0)), []⟩ => some y0
  | _ => none
noncomputable def An_r (r : Int) : Res := ⟨.one (.d (.int .i64 r)), []⟩
theorem An_dr {R : Res} {r : Int} (h : An_d R = some r) : R = An_r r := by
  unfold An_d at h; split at h <;> cases h <;> rfl
noncomputable def An_o (L : Lv) {Ω : Type} (f : FuncId) (l : List Arg) (K : Res → Option Ω) (next : Option Ω) : Option Ω := At 93 An_a (fun a => L.An a.1 a.2.1 a.2.2) An_r f l K next
noncomputable def Be_a : List Arg → Option LL
  | [.v (.one (.c (.row 30 x0)))] => some x0
  | _ => none
noncomputable def Be_e (a : LL) : List Arg := [.v (.one (.c (C.row 30 a)))]
theorem Be_ae {l : List Arg} {a : LL} (h : Be_a l = some a) : l = Be_e a := by
  unfold Be_a at h; split at h <;> cases h <;> rfl
noncomputable def Be_d : Res → Option Bool
  | ⟨.one (.d (.bool y0)), []⟩ => some y0
  | _ => none
noncomputable def Be_r (r : Bool) : Res := ⟨.one (.d (.bool r)), []⟩
theorem Be_dr {R : Res} {r : Bool} (h : Be_d R = some r) : R = Be_r r := by
  unfold Be_d at h; split at h <;> cases h <;> rfl
noncomputable def Be_o (L : Lv) {Ω : Type} (f : FuncId) (l : List Arg) (K : Res → Option Ω) (next : Option Ω) : Option Ω := At 15 Be_a (fun a => L.Be a) Be_r f l K next
noncomputable def Cq_a : List Arg → Option Int
  | [.v (.one (.c (.int .i64 x0)))] => some x0
  | _ => none
noncomputable def Cq_e (a : Int) : List Arg := [.v (.one (.c (C.int .i64 a)))]
theorem Cq_ae {l : List Arg} {a : Int} (h : Cq_a l = some a) : l = Cq_e a := by
  unfold Cq_a at h; split at h <;> cases h <;> rfl
noncomputable def Cq_d : Res → Option Bool
  | ⟨.one (.d (.bool y0)), []⟩ => some y0
  | _ => none
noncomputable def Cq_r (r : Bool) : Res := ⟨.one (.d (.bool r)), []⟩
theorem Cq_dr {R : Res} {r : Bool} (h : Cq_d R = some r) : R = Cq_r r := by
  unfold Cq_d at h; split at h <;> cases h <;> rfl
noncomputable def Cq_o (L : Lv) {Ω : Type} (f : FuncId) (l : List Arg) (K : Res → Option Ω) (next : Option Ω) : Option Ω := At 67 Cq_a (fun a => L.Cq a) Cq_r f l K next
noncomputable def Cr_a : List Arg → Option Int
  | [.v (.one (.c (.int .i64 x0)))] => some x0
  | _ => none
noncomputable def Cr_e (a : Int) : List Arg := [.v (.one (.c (C.int .i64 a)))]
theorem Cr_ae {l : List Arg} {a : Int} (h : Cr_a l = some a) : l = Cr_e a := by
  unfold Cr_a at h; split at h <;> cases h <;> rfl
noncomputable def Cr_d : Res → Option Bool
  | ⟨.one (.d (.bool y0)), []⟩ => some y0
  | _ => none
noncomputable def Cr_r (r : Bool) : Res := ⟨.one (.d (.bool r)), []⟩
theorem Cr_dr {R : Res} {r : Bool} (h : Cr_d R = some r) : R = Cr_r r := by
  unfold Cr_d at h; split at h <;> cases h <;> rfl
noncomputable def Cr_o (L : Lv) {Ω : Type} (f : FuncId) (l : List Arg) (K : Res → Option Ω) (next : Option Ω) : Option Ω := At 86 Cr_a (fun a => L.Cr a) Cr_r f l K next
noncomputable def Bi_a : List Arg → Option (BA × Int × LL)
  | [.v (.one (.c (.str x0))), .v (.one (.c (.int .i64 x1))), .v (.one (.c (.row 5 x2)))] => some (x0, x1, x2)
  | _ => none
noncomputable def Bi_e (a : BA × Int × LL) : List Arg := [.v (.one (.c (C.str a.1))), .v (.one (.c (C.int .i64 a.2.1))), .v (.one (.c (C.row 5 a.2.2)))]
theorem Bi_ae {l : List Arg} {a : BA × Int × LL} (h : Bi_a l = some a) : l = Bi_e a := by
  unfold Bi_a at h; split at h <;> cases h <;> rfl
noncomputable def Bi_d : Res → Option Bool
  | ⟨.one (.d (.bool y0)), []⟩ => some y0
  | _ => none
noncomputable def Bi_r (r : Bool) : Res := ⟨.one (.d (.bool r)), []⟩
theorem Bi_dr {R : Res} {r : Bool} (h : Bi_d R = some r) : R = Bi_r r := by
  unfold Bi_d at h; split at h <;> cases h <;> rfl
noncomputable def Bi_o (L : Lv) {Ω : Type} (f : FuncId) (l : List Arg) (K : Res → Option Ω) (next : Option Ω) : Option Ω := At 95 Bi_a (fun a => L.Bi a.1 a.2.1 a.2.2) Bi_r f l K next
noncomputable def Cp_a : List Arg → Option Int
  | [.v (.one (.c (.int .i64 x0)))] => some x0
  | _ => none
noncomputable def Cp_e (a : Int) : List Arg := [.v (.one (.c (C.int .i64 a)))]
theorem Cp_ae {l : List Arg} {a : Int} (h : Cp_a l = some a) : l = Cp_e a := by
  unfold Cp_a at h; split at h <;> cases h <;> rfl
noncomputable def Cp_d : Res → Option Bool
  | ⟨.one (.d (.bool y0)), []⟩ => some y0
  | _ => none
noncomputable def Cp_r (r : Bool) : Res := ⟨.one (.d (.bool r)), []⟩
theorem Cp_dr {R : Res} {r : Bool} (h : Cp_d R = some r) : R = Cp_r r := by
  unfold Cp_d at h; split at h <;> cases h <;> rfl
noncomputable def Cp_o (L : Lv) {Ω : Type} (f : FuncId) (l : List Arg) (K : Res → Option Ω) (next : Option Ω) : Option Ω := At 84 Cp_a (fun a => L.Cp a) Cp_r f l K next
noncomputable def C9_a : List Arg → Option LL
  | [.v (.one (.c (.row 30 x0)))] => some x0
  | _ => none
noncomputable def C9_e (a : LL) : List Arg := [.v (.one (.c (C.row 30 a)))]
theorem C9_ae {l : List Arg} {a : LL} (h : C9_a l = some a) : l = C9_e a := by
  unfold C9_a at h; split at h <;> cases h <;> rfl
noncomputable def C9_d : Res → Option Bool
  | ⟨.one (.d (.bool y0)), []⟩ => some y0
  | _ => none
noncomputable def C9_r (r : Bool) : Res := ⟨.one (.d (.bool r)), []⟩
theorem C9_dr {R : Res} {r : Bool} (h : C9_d R = some r) : R = C9_r r := by
  unfold C9_d at h; split at h <;> cases h <;> rfl
noncomputable def C9_o (L : Lv) {Ω : Type} (f : FuncId) (l : List Arg) (K : Res → Option Ω) (next : Option Ω) : Option Ω := At 17 C9_a (fun a => L.C9 a) C9_r f l K next
noncomputable def By_a : List Arg → Option (BA × Int × BA)
  | [.v (.one (.c (.str x0))), .v (.one (.c (.int .i64 x1))), .v (.one (.c (.str x2)))] => some (x0, x1, x2)
  | _ => none
noncomputable def By_e (a : BA × Int × BA) : List Arg := [.v (.one (.c (C.str a.1))), .v (.one (.c (C.int .i64 a.2.1))), .v (.one (.c (C.str a.2.2)))]
theorem By_ae {l : List Arg} {a : BA × Int × BA} (h : By_a l = some a) : l = By_e a := by
  unfold By_a at h; split at h <;> cases h <;> rfl
noncomputable def By_d : Res → Option Int
  | ⟨.one (.d (.int .i64 y0)), []⟩ => some y0
  | _ => none
noncomputable def By_r (r : Int) : Res := ⟨.one (.d (.int .i64 r)), []⟩
theorem By_dr {R : Res} {r : Int} (h : By_d R = some r) : R = By_r r := by
  unfold By_d at h; split at h <;> cases h <;> rfl
noncomputable def By_o (L : Lv) {Ω : Type} (f : FuncId) (l : List Arg) (K : Res → Option Ω) (next : Option Ω) : Option Ω := At 82 By_a (fun a => L.By a.1 a.2.1 a.2.2) By_r f l K next
noncomputable def Az_a : List Arg → Option LL
  | [.v (.one (.c (.row 30 x0)))] => some x0
  | _ => none
noncomputable def Az_e (a : LL) : List Arg := [.v (.one (.c (C.row 30 a)))]
theorem Az_ae {l : List Arg} {a : LL} (h : Az_a l = some a) : l = Az_e a := by
  unfold Az_a at h; split at h <;> cases h <;> rfl
noncomputable def Az_d : Res → Option Int
  | ⟨.one (.d (.int .i64 y0)), []⟩ => some y0
  | _ => none
noncomputable def Az_r (r : Int) : Res := ⟨.one (.d (.int .i64 r)), []⟩
theorem Az_dr {R : Res} {r : Int} (h : Az_d R = some r) : R = Az_r r := by
  unfold Az_d at h; split at h <;> cases h <;> rfl
noncomputable def Az_o (L : Lv) {Ω : Type} (f : FuncId) (l : List Arg) (K : Res → Option Ω) (next : Option Ω) : Option Ω := At 41 Az_a (fun a => L.Az a) Az_r f l K next
noncomputable def A4_a : List Arg → Option (Int × BA × BA × LL × BA)
  | [.v (.agg [.c (.int .i64 xb), .c (.str xa), .c (.str xc), .c (.row 86 xd), .c (.str xe)])] => some (xb, xa, xc, xd, xe)
  | _ => none
noncomputable def A4_e (a : Int × BA × BA × LL × BA) : List Arg := [.v (.agg [.c (C.int .i64 a.1), .c (C.str a.2.1), .c (C.str a.2.2.1), .c (C.row 86 a.2.2.2.1), .c (C.str a.2.2.2.2)])]
theorem A4_ae {l : List Arg} {a : Int × BA × BA × LL × BA} (h : A4_a l = some a) : l = A4_e a := by
  unfold A4_a at h; split at h <;> cases h <;> rfl
noncomputable def A4_d : Res → Option Bool
  | ⟨.one (.d (.bool y0)), []⟩ => some y0
  | _ => none
noncomputable def A4_r (r : Bool) : Res := ⟨.one (.d (.bool r)), []⟩
theorem A4_dr {R : Res} {r : Bool} (h : A4_d R = some r) : R = A4_r r := by
  unfold A4_d at h; split at h <;> cases h <;> rfl
noncomputable def A4_o (L : Lv) {Ω : Type} (f : FuncId) (l : List Arg) (K : Res → Option Ω) (next : Option Ω) : Option Ω := At 30 A4_a (fun a => L.A4 a.1 a.2.1 a.2.2.1 a.2.2.2.1 a.2.2.2.2) A4_r f l K next
noncomputable def C5_a : List Arg → Option (BA × BA)
  | [.v (.agg [.c (.str xb), .c (.str xa)])] => some (xb, xa)
  | _ => none
noncomputable def C5_e (a : BA × BA) : List Arg := [.v (.agg [.c (C.str a.1), .c (C.str a.2)])]
theorem C5_ae {l : List Arg} {a : BA × BA} (h : C5_a l = some a) : l = C5_e a := by
  unfold C5_a at h; split at h <;> cases h <;> rfl
noncomputable def C5_d : Res → Option Bool
  | ⟨.one (.d (.bool y0)), []⟩ => some y0
  | _ => none
noncomputable def C5_r (r : Bool) : Res := ⟨.one (.d (.bool r)), []⟩
theorem C5_dr {R : Res} {r : Bool} (h : C5_d R = some r) : R = C5_r r := by
  unfold C5_d at h; split at h <;> cases h <;> rfl
noncomputable def C5_o (L : Lv) {Ω : Type} (f : FuncId) (l : List Arg) (K : Res → Option Ω) (next : Option Ω) : Option Ω := At 51 C5_a (fun a => L.C5 a.1 a.2) C5_r f l K next
noncomputable def Ct_a : List Arg → Option (LL × LL × LL × Int × Int × Int × LL × LL × LL × Int)
  | [.v (.agg [.c (.row 25 xb), .c (.row 39 xa), .c (.row 3 xc), .c (.int .i64 xd), .c (.int .i64 xe), .c (.int .i64 xf), .c (.row 83 xj), .c (.row 66 xk)]), .v (.one (.c (.row 30 x1))), .v (.one (.c (.int .i64 x2)))] => some (xb, xa, xc, xd, xe, xf, xj, xk, x1, x2)
  | _ => none
noncomputable def Ct_e (a : LL × LL × LL × Int × Int × Int × LL × LL × LL × Int) : List Arg := [.v (.agg [.c (C.row 25 a.1), .c (C.row 39 a.2.1), .c (C.row 3 a.2.2.1), .c (C.int .i64 a.2.2.2.1), .c (C.int .i64 a.2.2.2.2.1), .c (C.int .i64 a.2.2.2.2.2.1), .c (C.row 83 a.2.2.2.2.2.2.1), .c (C.row 66 a.2.2.2.2.2.2.2.1)]), .v (.one (.c (C.row 30 a.2.2.2.2.2.2.2.2.1))), .v (.one (.c (C.int .i64 a.2.2.2.2.2.2.2.2.2)))]
theorem Ct_ae {l : List Arg} {a : LL × LL × LL × Int × Int × Int × LL × LL × LL × Int} (h : Ct_a l = some a) : l = Ct_e a := by
  unfold Ct_a at h; split at h <;> cases h <;> rfl
noncomputable def Ct_d : Res → Option (Bool × Bool × BA)
  | ⟨.agg [.d (.bool y0), .d (.bool y1), .d (.str y2)], []⟩ => some (y0, y1, y2)
  | _ => none
noncomputable def Ct_r (r : Bool × Bool × BA) : Res := ⟨.agg [.d (.bool r.1), .d (.bool r.2.1), .d (.str r.2.2)], []⟩
theorem Ct_dr {R : Res} {r : Bool × Bool × BA} (h : Ct_d R = some r) : R = Ct_r r := by
  unfold Ct_d at h; split at h <;> cases h <;> rfl
noncomputable def Ct_o (L : Lv) {Ω : Type} (f : FuncId) (l : List Arg) (K : Res → Option Ω) (next : Option Ω) : Option Ω := At 18 Ct_a (fun a => L.Ct a.1 a.2.1 a.2.2.1 a.2.2.2.1 a.2.2.2.2.1 a.2.2.2.2.2.1 a.2.2.2.2.2.2.1 a.2.2.2.2.2.2.2.1 a.2.2.2.2.2.2.2.2.1 a.2.2.2.2.2.2.2.2.2) Ct_r f l K next
noncomputable def Bp_a : List Arg → Option (LL × Int)
  | [.v (.one (.c (.row 30 x0))), .v (.one (.c (.int .i64 x1)))] => some (x0, x1)
  | _ => none
noncomputable def Bp_e (a : LL × Int) : List Arg := [.v (.one (.c (C.row 30 a.1))), .v (.one (.c (C.int .i64 a.2)))]
theorem Bp_ae {l : List Arg} {a : LL × Int} (h : Bp_a l = some a) : l = Bp_e a := by
  unfold Bp_a at h; split at h <;> cases h <;> rfl
noncomputable def Bp_d : Res → Option Int
  | ⟨.one (.d (.int .i64 y0)), []⟩ => some y0
  | _ => none
noncomputable def Bp_r (r : Int) : Res := ⟨.one (.d (.int .i64 r)), []⟩
theorem Bp_dr {R : Res} {r : Int} (h : Bp_d R = some r) : R = Bp_r r := by
  unfold Bp_d at h; split at h <;> cases h <;> rfl
noncomputable def Bp_o (L : Lv) {Ω : Type} (f : FuncId) (l : List Arg) (K : Res → Option Ω) (next : Option Ω) : Option Ω := At 42 Bp_a (fun a => L.Bp a.1 a.2) Bp_r f l K next
noncomputable def Ad_a : List Arg → Option (LL × LL × LL × Int × Int × Int × LL × LL × Int × BA × BA × LL × BA × Bool × Bool × BA × Bool × Bool × BA)
  | [.v (.agg [.c (.row 25 xb), .c (.row 39 xa), .c (.row 3 xc), .c (.int .i64 xd), .c (.int .i64 xe), .c (.int .i64 xf), .c (.row 83 xj), .c (.row 66 xk)]), .v (.agg [.c (.int .i64 xg), .c (.str xh), .c (.str xi), .c (.row 86 xl), .c (.str xm)]), .v (.agg [.c (.bool xn), .c (.bool xo), .c (.str xp)]), .v (.agg [.c (.bool xx), .c (.bool xy), .c (.str xz)])] => some (xb, xa, xc, xd, xe, xf, xj, xk, xg, xh, xi, xl, xm, xn, xo, xp, xx, xy, xz)
  | _ => none
noncomputable def Ad_e (a : LL × LL × LL × Int × Int × Int × LL × LL × Int × BA × BA × LL × BA × Bool × Bool × BA × Bool × Bool × BA) : List Arg := [.v (.agg [.c (C.row 25 a.1), .c (C.row 39 a.2.1), .c (C.row 3 a.2.2.1), .c (C.int .i64 a.2.2.2.1), .c (C.int .i64 a.2.2.2.2.1), .c (C.int .i64 a.2.2.2.2.2.1), .c (C.row 83 a.2.2.2.2.2.2.1), .c (C.row 66 a.2.2.2.2.2.2.2.1)]), .v (.agg [.c (C.int .i64 a.2.2.2.2.2.2.2.2.1), .c (C.str a.2.2.2.2.2.2.2.2.2.1), .c (C.str a.2.2.2.2.2.2.2.2.2.2.1), .c (C.row 86 a.2.2.2.2.2.2.2.2.2.2.2.1), .c (C.str a.2.2.2.2.2.2.2.2.2.2.2.2.1)]), .v (.agg [.c (C.bool a.2.2.2.2.2.2.2.2.2.2.2.2.2.1), .c (C.bool a.2.2.2.2.2.2.2.2.2.2.2.2.2.2.1), .c (C.str a.2.2.2.2.2.2.2.2.2.2.2.2.2.2.2.1)]), .v (.agg [.c (C.bool a.2.2.2.2.2.2.2.2.2.2.2.2.2.2.2.2.1), .c (C.bool a.2.2.2.2.2.2.2.2.2.2.2.2.2.2.2.2.2.1), .c (C.str a.2.2.2.2.2.2.2.2.2.2.2.2.2.2.2.2.2.2)])]
theorem Ad_ae {l : List Arg} {a : LL × LL × LL × Int × Int × Int × LL × LL × Int × BA × BA × LL × BA × Bool × Bool × BA × Bool × Bool × BA} (h : Ad_a l = some a) : l = Ad_e a := by
  unfold Ad_a at h; split at h <;> cases h <;> rfl
noncomputable def Ad_d : Res → Option (Bool × Bool × BA)
  | ⟨.agg [.d (.bool y0), .d (.bool y1), .d (.str y2)], []⟩ => some (y0, y1, y2)
  | _ => none
noncomputable def Ad_r (r : Bool × Bool × BA) : Res := ⟨.agg [.d (.bool r.1), .d (.bool r.2.1), .d (.str r.2.2)], []⟩
theorem Ad_dr {R : Res} {r : Bool × Bool × BA} (h : Ad_d R = some r) : R = Ad_r r := by
  unfold Ad_d at h; split at h <;> cases h <;> rfl
noncomputable def Ad_o (L : Lv) {Ω : Type} (f : FuncId) (l : List Arg) (K : Res → Option Ω) (next : Option Ω) : Option Ω := At 14 Ad_a (fun a => L.Ad a.1 a.2.1 a.2.2.1 a.2.2.2.1 a.2.2.2.2.1 a.2.2.2.2.2.1 a.2.2.2.2.2.2.1 a.2.2.2.2.2.2.2.1 a.2.2.2.2.2.2.2.2.1 a.2.2.2.2.2.2.2.2.2.1 a.2.2.2.2.2.2.2.2.2.2.1 a.2.2.2.2.2.2.2.2.2.2.2.1 a.2.2.2.2.2.2.2.2.2.2.2.2.1 a.2.2.2.2.2.2.2.2.2.2.2.2.2.1 a.2.2.2.2.2.2.2.2.2.2.2.2.2.2.1 a.2.2.2.2.2.2.2.2.2.2.2.2.2.2.2.1 a.2.2.2.2.2.2.2.2.2.2.2.2.2.2.2.2.1 a.2.2.2.2.2.2.2.2.2.2.2.2.2.2.2.2.2.1 a.2.2.2.2.2.2.2.2.2.2.2.2.2.2.2.2.2.2) Ad_r f l K next
noncomputable def B3_a : List Arg → Option (LL × LL × LL × Int × Int × Int × LL × LL)
  | [.v (.agg [.c (.row 25 xb), .c (.row 39 xa), .c (.row 3 xc), .c (.int .i64 xd), .c (.int .i64 xe), .c (.int .i64 xf), .c (.row 83 xj), .c (.row 66 xk)])] => some (xb, xa, xc, xd, xe, xf, xj, xk)
  | _ => none
noncomputable def B3_e (a : LL × LL × LL × Int × Int × Int × LL × LL) : List Arg := [.v (.agg [.c (C.row 25 a.1), .c (C.row 39 a.2.1), .c (C.row 3 a.2.2.1), .c (C.int .i64 a.2.2.2.1), .c (C.int .i64 a.2.2.2.2.1), .c (C.int .i64 a.2.2.2.2.2.1), .c (C.row 83 a.2.2.2.2.2.2.1), .c (C.row 66 a.2.2.2.2.2.2.2)])]
theorem B3_ae {l : List Arg} {a : LL × LL × LL × Int × Int × Int × LL × LL} (h : B3_a l = some a) : l = B3_e a := by
  unfold B3_a at h; split at h <;> cases h <;> rfl
noncomputable def B3_d : Res → Option Int
  | ⟨.one (.d (.int .i64 y0)), []⟩ => some y0
  | _ => none
noncomputable def B3_r (r : Int) : Res := ⟨.one (.d (.int .i64 r)), []⟩
theorem B3_dr {R : Res} {r : Int} (h : B3_d R = some r) : R = B3_r r := by
  unfold B3_d at h; split at h <;> cases h <;> rfl
noncomputable def B3_o (L : Lv) {Ω : Type} (f : FuncId) (l : List Arg) (K : Res → Option Ω) (next : Option Ω) : Option Ω := At 34 B3_a (fun a => L.B3 a.1 a.2.1 a.2.2.1 a.2.2.2.1 a.2.2.2.2.1 a.2.2.2.2.2.1 a.2.2.2.2.2.2.1 a.2.2.2.2.2.2.2) B3_r f l K next
noncomputable def A0_a : List Arg → Option (LL × LL × LL × Int × Int × Int × LL × LL × Int × BA × BA × BA × LL × LL × Int × BA × BA × LL × BA × LL)
  | [.v (.agg [.c (.row 25 xb), .c (.row 39 xa), .c (.row 3 xc), .c (.int .i64 xd), .c (.int .i64 xe), .c (.int .i64 xf), .c (.row 83 xj), .c (.row 66 xk)]), .v (.agg [.c (.int .i64 xg), .c (.str xh), .c (.str xi), .c (.str xl), .c (.row 66 xm), .c (.row 25 xq)]), .v (.agg [.c (.int .i64 xn), .c (.str xo), .c (.str xp), .c (.row 86 yi), .c (.str yj)]), .v (.one (.c (.row 5 x3)))] => some (xb, xa, xc, xd, xe, xf, xj, xk, xg, xh, xi, xl, xm, xq, xn, xo, xp, yi, yj, x3)
  | _ => none
noncomputable def A0_e (a : LL × LL × LL × Int × Int × Int × LL × LL × Int × BA × BA × BA × LL × LL × Int × BA × BA × LL × BA × LL) : List Arg := [.v (.agg [.c (C.row 25 a.1), .c (C.row 39 a.2.1), .c (C.row 3 a.2.2.1), .c (C.int .i64 a.2.2.2.1), .c (C.int .i64 a.2.2.2.2.1), .c (C.int .i64 a.2.2.2.2.2.1), .c (C.row 83 a.2.2.2.2.2.2.1), .c (C.row 66 a.2.2.2.2.2.2.2.1)]), .v (.agg [.c (C.int .i64 a.2.2.2.2.2.2.2.2.1), .c (C.str a.2.2.2.2.2.2.2.2.2.1), .c (C.str a.2.2.2.2.2.2.2.2.2.2.1), .c (C.str a.2.2.2.2.2.2.2.2.2.2.2.1), .c (C.row 66 a.2.2.2.2.2.2.2.2.2.2.2.2.1), .c (C.row 25 a.2.2.2.2.2.2.2.2.2.2.2.2.2.1)]), .v (.agg [.c (C.int .i64 a.2.2.2.2.2.2.2.2.2.2.2.2.2.2.1), .c (C.str a.2.2.2.2.2.2.2.2.2.2.2.2.2.2.2.1), .c (C.str a.2.2.2.2.2.2.2.2.2.2.2.2.2.2.2.2.1), .c (C.row 86 a.2.2.2.2.2.2.2.2.2.2.2.2.2.2.2.2.2.1), .c (C.str a.2.2.2.2.2.2.2.2.2.2.2.2.2.2.2.2.2.2.1)]), .v (.one (.c (C.row 5 a.2.2.2.2.2.2.2.2.2.2.2.2.2.2.2.2.2.2.2)))]
theorem A0_ae {l : List Arg} {a : LL × LL × LL × Int × Int × Int × LL × LL × Int × BA × BA × BA × LL × LL × Int × BA × BA × LL × BA × LL} (h : A0_a l = some a) : l = A0_e a := by
  unfold A0_a at h; split at h <;> cases h <;> rfl
noncomputable def A0_d : Res → Option Bool
  | ⟨.one (.d (.bool y0)), []⟩ => some y0
  | _ => none
noncomputable def A0_r (r : Bool) : Res := ⟨.one (.d (.bool r)), []⟩
theorem A0_dr {R : Res} {r : Bool} (h : A0_d R = some r) : R = A0_r r := by
  unfold A0_d at h; split at h <;> cases h <;> rfl
noncomputable def A0_o (L : Lv) {Ω : Type} (f : FuncId) (l : List Arg) (K : Res → Option Ω) (next : Option Ω) : Option Ω := At 25 A0_a (fun a => L.A0 a.1 a.2.1 a.2.2.1 a.2.2.2.1 a.2.2.2.2.1 a.2.2.2.2.2.1 a.2.2.2.2.2.2.1 a.2.2.2.2.2.2.2.1 a.2.2.2.2.2.2.2.2.1 a.2.2.2.2.2.2.2.2.2.1 a.2.2.2.2.2.2.2.2.2.2.1 a.2.2.2.2.2.2.2.2.2.2.2.1 a.2.2.2.2.2.2.2.2.2.2.2.2.1 a.2.2.2.2.2.2.2.2.2.2.2.2.2.1 a.2.2.2.2.2.2.2.2.2.2.2.2.2.2.1 a.2.2.2.2.2.2.2.2.2.2.2.2.2.2.2.1 a.2.2.2.2.2.2.2.2.2.2.2.2.2.2.2.2.1 a.2.2.2.2.2.2.2.2.2.2.2.2.2.2.2.2.2.1 a.2.2.2.2.2.2.2.2.2.2.2.2.2.2.2.2.2.2.1 a.2.2.2.2.2.2.2.2.2.2.2.2.2.2.2.2.2.2.2) A0_r f l K next
noncomputable def Ax_a : List Arg → Option (Int × Int × Int × LL × LL × LL × LL)
  | [.v (.agg [.c (.int .i64 xb), .c (.int .i64 xa), .c (.int .i64 xc), .c (.row 83 xd), .c (.row 66 xe)]), .v (.one (.c (.row 3 x1))), .v (.one (.c (.row 4 x2)))] => some (xb, xa, xc, xd, xe, x1, x2)
  | _ => none
noncomputable def Ax_e (a : Int × Int × Int × LL × LL × LL × LL) : List Arg := [.v (.agg [.c (C.int .i64 a.1), .c (C.int .i64 a.2.1), .c (C.int .i64 a.2.2.1), .c (C.row 83 a.2.2.2.1), .c (C.row 66 a.2.2.2.2.1)]), .v (.one (.c (C.row 3 a.2.2.2.2.2.1))), .v (.one (.c (C.row 4 a.2.2.2.2.2.2)))]
theorem Ax_ae {l : List Arg} {a : Int × Int × Int × LL × LL × LL × LL} (h : Ax_a l = some a) : l = Ax_e a := by
  unfold Ax_a at h; split at h <;> cases h <;> rfl
noncomputable def Ax_d : Res → Option LL
  | ⟨.one (.own 4 y0), []⟩ => some y0
  | _ => none
noncomputable def Ax_r (r : LL) : Res := ⟨.one (.own 4 r), []⟩
theorem Ax_dr {R : Res} {r : LL} (h : Ax_d R = some r) : R = Ax_r r := by
  unfold Ax_d at h; split at h <;> cases h <;> rfl
noncomputable def Ax_o (L : Lv) {Ω : Type} (f : FuncId) (l : List Arg) (K : Res → Option Ω) (next : Option Ω) : Option Ω := At 37 Ax_a (fun a => L.Ax a.1 a.2.1 a.2.2.1 a.2.2.2.1 a.2.2.2.2.1 a.2.2.2.2.2.1 a.2.2.2.2.2.2) Ax_r f l K next
noncomputable def Cf_a : List Arg → Option (Bool × Bool × BA × Int)
  | [.v (.agg [.c (.bool xb), .c (.bool xa), .c (.str xc)]), .v (.one (.c (.int .i64 x1)))] => some (xb, xa, xc, x1)
  | _ => none
noncomputable def Cf_e (a : Bool × Bool × BA × Int) : List Arg := [.v (.agg [.c (C.bool a.1), .c (C.bool a.2.1), .c (C.str a.2.2.1)]), .v (.one (.c (C.int .i64 a.2.2.2)))]
theorem Cf_ae {l : List Arg} {a : Bool × Bool × BA × Int} (h : Cf_a l = some a) : l = Cf_e a := by
  unfold Cf_a at h; split at h <;> cases h <;> rfl
noncomputable def Cf_d : Res → Option Bool
  | ⟨.one (.d (.bool y0)), []⟩ => some y0
  | _ => none
noncomputable def Cf_r (r : Bool) : Res := ⟨.one (.d (.bool r)), []⟩
theorem Cf_dr {R : Res} {r : Bool} (h : Cf_d R = some r) : R = Cf_r r := by
  unfold Cf_d at h; split at h <;> cases h <;> rfl
noncomputable def Cf_o (L : Lv) {Ω : Type} (f : FuncId) (l : List Arg) (K : Res → Option Ω) (next : Option Ω) : Option Ω := At 38 Cf_a (fun a => L.Cf a.1 a.2.1 a.2.2.1 a.2.2.2) Cf_r f l K next
noncomputable def orK (L : Lv) {Ω : Type} (f : FuncId) (l : List Arg) (K : Res → Option Ω) : Option Ω := Bn_o L f l K (Dn_o L f l K (Bj_o L f l K (Cs_o L f l K (Ah_o L f l K (Cc_o L f l K (Ar_o L f l K (Bc_o L f l K (Bs_o L f l K (Ba_o L f l K (Bf_o L f l K (Bu_o L f l K (B4_o L f l K (Ap_o L f l K (Bk_o L f l K (Cy_o L f l K (Bz_o L f l K (Cm_o L f l K (Cn_o L f l K (Co_o L f l K (B6_o L f l K (B7_o L f l K (B8_o L f l K (Dm_o L f l K (Cz_o L f l K (De_o L f l K (B0_o L f l K (Dd_o L f l K (B9_o L f l K (Dl_o L f l K (Cx_o L f l K (Bx_o L f l K (Au_o L f l K (C4_o L f l K (Bw_o L f l K (Di_o L f l K (C3_o L f l K (Dc_o L f l K (A5_o L f l K (Dh_o L f l K (C6_o L f l K (Cv_o L f l K (Br_o L f l K (Bl_o L f l K (C1_o L f l K (Ao_o L f l K (Bq_o L f l K (Df_o L f l K (Bh_o L f l K (Bv_o L f l K (Bd_o L f l K (Dg_o L f l K (C8_o L f l K (C7_o L f l K (Cw_o L f l K (B5_o L f l K (C0_o L f l K (Da_o L f l K (Dk_o L f l K (Bb_o L f l K (Bg_o L f l K (A8_o L f l K (Aj_o L f l K (Db_o L f l K (A9_o L f l K (Bm_o L f l K (A6_o L f l K (Cj_o L f l K (A7_o L f l K (Cb_o L f l K (Ae_o L f l K (An_o L f l K (Be_o L f l K (Cq_o L f l K (Cr_o L f l K (Bi_o L f l K (Cp_o L f l K (C9_o L f l K (By_o L f l K (Az_o L f l K (A4_o L f l K (C5_o L f l K (Ct_o L f l K (Bp_o L f l K (Ad_o L f l K (B3_o L f l K (A0_o L f l K (Ax_o L f l K (Cf_o L f l K (none)))))))))))))))))))))))))))))))))))))))))))))))))))))))))))))))))))))))))))))))))))))))))
noncomputable def Bn_b (L : Lv) (k : Nat) (xb : Int) (xa xc x1 : LL) : Option Bool := As Ab Try.prog (orK L) kp k 4 [.v (.agg [.c (C.int .i64 xb), .c (C.row 25 xa), .c (C.row 66 xc)]), .v (.one (.c (C.row 30 x1)))] Bn_d
noncomputable def Bn_l0 (L : Lv) (k : Nat) (xb : Int) (xa xc x1 : LL) (m0 : Nat) (v1 v2 v3 v4 v5 : Int) (v6 v7 v8 v9 v10 v11 : LL) : Option Bool := Ak Ab Try.prog (orK L) kp k 4 [.v (.agg [.c (C.int .i64 xb), .c (C.row 25 xa), .c (C.row 66 xc)]), .v (.one (.c (C.row 30 x1)))] [1, 1, 1, 1, 1, 1, 0, 1, 0] [m0] ⟨[(1, .one (.c (C.row 30 x1))), (5, .one (.ptr 128 0)), (6, .one (.arr 129)), (7, .one (.c (C.int .i64 v1))), (8, .one (.c (C.int .i64 v2)))], [(128, .box 41 [.arr 130, .arr 131, .arr 132, .c (C.int .i64 v3), .c (C.int .i64 v4), .c (C.int .i64 v5), .c (C.row 83 v6), .c (C.row 66 v7)]), (129, .arr 44 false v8), (130, .arr 25 false v9), (131, .arr 39 false v10), (132, .arr 3 false v11)], 134, 71⟩ Bn_d
noncomputable def Dn_b (L : Lv) (k : Nat) : Option Bool := As Ab Try.prog (orK L) kp k 8 [] Dn_d
noncomputable def Bj_b (L : Lv) (k : Nat) (xb : Int) (xa xc : LL) : Option (LL × LL × LL × Int × Int × Int × LL × LL) := As Ab Try.prog (orK L) kp k 11 [.v (.agg [.c (C.int .i64 xb), .c (C.row 25 xa), .c (C.row 66 xc)])] Bj_d
noncomputable def Bj_l0 (L : Lv) (k : Nat) (xb : Int) (xa xc : LL) (m0 : Nat) (v1 v5 v6 v7 : Int) (v8 v9 v10 : LL) : Option (LL × LL × LL × Int × Int × Int × LL × LL) := Ak Ab Try.prog (orK L) kp k 11 [.v (.agg [.c (C.int .i64 xb), .c (C.row 25 xa), .c (C.row 66 xc)])] [1, 1, 1, 1, 0, 1, 0] [m0] ⟨[(2, .one (.ptr 64 0)), (3, .one (.ptr 65 0)), (4, .one (.arr 66)), (5, .one (.c (C.int .i64 0))), (6, .one (.c (C.int .i64 v1)))], [(64, .box 41 [.c (C.nil 25), .c (C.nil 39), .c (C.nil 3), .c (C.int .i64 0), .c (C.int .i64 0), .c (C.int .i64 0), .c (C.nil 83), .c (C.nil 66)]), (65, .box 41 [.c (C.nil 25), .c (C.nil 39), .c (C.nil 3), .c (C.int .i64 v5), .c (C.int .i64 v6), .c (C.int .i64 v7), .c (C.row 83 v8), .c (C.row 66 v9)]), (66, .arr 25 false v10)], 68, 57⟩ Bj_d
noncomputable def Bj_l1 (L : Lv) (k : Nat) (xb : Int) (xa xc : LL) (m0 : Nat) (v0 v1 v5 v6 v7 : Int) (v8 v9 v10 v11 v12 v13 : LL) : Option (LL × LL × LL × Int × Int × Int × LL × LL) := Ak Ab Try.prog (orK L) kp k 11 [.v (.agg [.c (C.int .i64 xb), .c (C.row 25 xa), .c (C.row 66 xc)])] [1, 1, 1, 1, 0, 1, 0] [m0] ⟨[(2, .one (.ptr 64 0)), (3, .one (.ptr 65 0)), (4, .one (.arr 66)), (5, .one (.c (C.int .i64 v0))), (6, .one (.c (C.int .i64 v1)))], [(64, .box 41 [.c (C.nil 25), .c (C.nil 39), .c (C.nil 3), .c (C.int .i64 0), .c (C.int .i64 0), .c (C.int .i64 0), .c (C.nil 83), .c (C.nil 66)]), (65, .box 41 [.arr 67, .arr 68, .arr 69, .c (C.int .i64 v5), .c (C.int .i64 v6), .c (C.int .i64 v7), .c (C.row 83 v8), .c (C.row 66 v9)]), (66, .arr 25 false v10), (67, .arr 25 false v11), (68, .arr 39 false v12), (69, .arr 3 false v13)], 71, 57⟩ Bj_d
noncomputable def Cs_b (L : Lv) (k : Nat) (xb : Int) (xa xc : LL) : Option (Int × Int × Int × LL × LL) := As Ab Try.prog (orK L) kp k 31 [.v (.agg [.c (C.int .i64 xb), .c (C.row 25 xa), .c (C.row 66 xc)])] Cs_d
noncomputable def Ah_b (L : Lv) (k : Nat) (xb xa xc : Int) (xd xe : LL) (xg : Int) (xh xi : LL) : Option (Int × Int × Int × LL × LL × Int × Int) := As Ab Try.prog (orK L) kp k 52 [.v (.agg [.c (C.int .i64 xb), .c (C.int .i64 xa), .c (C.int .i64 xc), .c (C.row 83 xd), .c (C.row 66 xe)]), .v (.agg [.c (C.int .i64 xg), .c (C.row 25 xh), .c (C.row 66 xi)])] Ah_d
noncomputable def Ah_l0 (L : Lv) (k : Nat) (xb xa xc : Int) (xd xe : LL) (xg : Int) (xh xi : LL) (m0 : Nat) : Option (Int × Int × Int × LL × LL × Int × Int) := Ak Ab Try.prog (orK L) kp k 52 [.v (.agg [.c (C.int .i64 xb), .c (C.int .i64 xa), .c (C.int .i64 xc), .c (C.row 83 xd), .c (C.row 66 xe)]), .v (.agg [.c (C.int .i64 xg), .c (C.row 25 xh), .c (C.row 66 xi)])] [1, 1, 1, 0, 1, 0, 1, 1, 0, 1, 0] [m0] ⟨[(2, .one (.ptr 128 0)), (3, .one (.ptr 129 0)), (4, .one (.ptr 130 0)), (5, .one (.c (C.int .i64 xb))), (10, .one (.c (C.nil 3))), (11, .one (.c (C.int .i64 0)))], [(128, .box 39 [.c (C.int .i64 (IntKind.i64.wrap (xb + 1))), .c (C.int .i64 xa), .c (C.int .i64 xc), .c (C.row 83 xd), .c (C.row 66 xe)]), (129, .box 25 [.c (C.int .i64 xg), .c (C.row 25 xh), .c (C.row 66 xi)]), (130, .box 105 [.c (C.int .i64 0), .c (C.int .i64 0), .c (C.int .i64 0), .c (C.nil 83), .c (C.nil 66), .c (C.int .i64 0), .c (C.int .i64 0)])], 132, 175⟩ Ah_d
noncomputable def Ah_l1 (L : Lv) (k : Nat) (xb xa xc : Int) (xd xe : LL) (xg : Int) (xh xi : LL) (v1 : Int) : Option (Int × Int × Int × LL × LL × Int × Int) := Ak Ab Try.prog (orK L) kp k 52 [.v (.agg [.c (C.int .i64 xb), .c (C.int .i64 xa), .c (C.int .i64 xc), .c (C.row 83 xd), .c (C.row 66 xe)]), .v (.agg [.c (C.int .i64 xg), .c (C.row 25 xh), .c (C.row 66 xi)])] [1, 1, 1, 1, 1, 1, 1, 1, 1, 1, 0, 0] [] ⟨[(2, .one (.ptr 128 0)), (3, .one (.ptr 129 0)), (4, .one (.ptr 130 0)), (5, .one (.c (C.int .i64 xb))), (16, .one (.c (C.int .i64 v1))), (17, .one (.c (C.int .i64 0)))], [(128, .box 39 [.c (C.int .i64 (IntKind.i64.wrap (xb + 2))), .c (C.int .i64 xa), .c (C.int .i64 xc), .c (C.row 83 xd), .c (C.row 66 xe)]), (129, .box 25 [.c (C.int .i64 xg), .c (C.row 25 xh), .c (C.row 66 xi)]), (130, .box 105 [.c (C.int .i64 0), .c (C.int .i64 0), .c (C.int .i64 0), .c (C.nil 83), .c (C.nil 66), .c (C.int .i64 0), .c (C.int .i64 0)])], 132, 175⟩ Ah_d
noncomputable def Ah_l2 (L : Lv) (k : Nat) (xb xa xc : Int) (xd xe : LL) (xg : Int) (xh xi : LL) (m0 : Nat) : Option (Int × Int × Int × LL × LL × Int × Int) := Ak Ab Try.prog (orK L) kp k 52 [.v (.agg [.c (C.int .i64 xb), .c (C.int .i64 xa), .c (C.int .i64 xc), .c (C.row 83 xd), .c (C.row 66 xe)]), .v (.agg [.c (C.int .i64 xg), .c (C.row 25 xh), .c (C.row 66 xi)])] [1, 1, 1, 0, 1, 0, 1, 1, 1, 1, 1, 0, 1, 0] [m0] ⟨[(2, .one (.ptr 128 0)), (4, .one (.ptr 129 0)), (5, .one (.c (C.int .i64 xb))), (10, .one (.c (C.nil 3))), (13, .one (.c (C.int .i64 (IntKind.i64.wrap (xb + 1))))), (14, .one (.c (C.int .i64 0)))], [(128, .box 39 [.c (C.int .i64 (IntKind.i64.wrap (IntKind.i64.wrap (xb + 1) + 1))), .c (C.int .i64 xa), .c (C.int .i64 xc), .c (C.row 83 xd), .c (C.row 66 xe)]), (129, .box 105 [.c (C.int .i64 0), .c (C.int .i64 0), .c (C.int .i64 0), .c (C.nil 83), .c (C.nil 66), .c (C.int .i64 0), .c (C.int .i64 0)])], 131, 175⟩ Ah_d
noncomputable def Ah_l3 (L : Lv) (k : Nat) (xb xa xc : Int) (xd xe : LL) (xg : Int) (xh xi : LL) (m0 : Nat) (v0 v10 v11 v12 : Int) (v13 v14 : LL) (v15 v16 : Int) : Option (Int × Int × Int × LL × LL × Int × Int) := Ak Ab Try.prog (orK L) kp k 52 [.v (.agg [.c (C.int .i64 xb), .c (C.int .i64 xa), .c (C.int .i64 xc), .c (C.row 83 xd), .c (C.row 66 xe)]), .v (.agg [.c (C.int .i64 xg), .c (C.row 25 xh), .c (C.row 66 xi)])] [1, 1, 0, 1, 0, 1, 1, 0, 1, 0] [m0] ⟨[(3, .one (.ptr 128 0)), (4, .one (.ptr 129 0)), (6, .one (.ptr 130 0)), (7, .one (.c (C.int .i64 v0))), (8, .one (.c (C.int .i64 1)))], [(128, .box 25 [.c (C.int .i64 xg), .c (C.row 25 xh), .c (C.row 66 xi)]), (129, .box 105 [.c (C.int .i64 0), .c (C.int .i64 0), .c (C.int .i64 0), .c (C.nil 83), .c (C.nil 66), .c (C.int .i64 0), .c (C.int .i64 0)]), (130, .box 105 [.c (C.int .i64 v10), .c (C.int .i64 v11), .c (C.int .i64 v12), .c (C.row 83 v13), .c (C.row 66 v14), .c (C.int .i64 v15), .c (C.int .i64 v16)])], 132, 175⟩ Ah_d
noncomputable def Ah_l4 (L : Lv) (k : Nat) (xb xa xc : Int) (xd xe : LL) (xg : Int) (xh xi : LL) (m0 : Nat) (v1 v2 v3 v4 : Int) (v5 v14 v15 : LL) : Option (Int × Int × Int × LL × LL × Int × Int) := Ak Ab Try.prog (orK L) kp k 52 [.v (.agg [.c (C.int .i64 xb), .c (C.int .i64 xa), .c (C.int .i64 xc), .c (C.row 83 xd), .c (C.row 66 xe)]), .v (.agg [.c (C.int .i64 xg), .c (C.row 25 xh), .c (C.row 66 xi)])] [1, 1, 1, 0, 1, 0, 1, 1, 0, 1, 0] [m0] ⟨[(2, .one (.ptr 128 0)), (3, .one (.ptr 129 0)), (4, .one (.ptr 130 0)), (5, .one (.c (C.int .i64 xb))), (10, .one (.arr 131)), (11, .one (.c (C.int .i64 v1)))], [(128, .box 39 [.c (C.int .i64 v2), .c (C.int .i64 v3), .c (C.int .i64 v4), .arr 132, .c (C.row 66 v5)]), (129, .box 25 [.c (C.int .i64 xg), .c (C.row 25 xh), .c (C.row 66 xi)]), (130, .box 105 [.c (C.int .i64 0), .c (C.int .i64 0), .c (C.int .i64 0), .c (C.nil 83), .c (C.nil 66), .c (C.int .i64 0), .c (C.int .i64 0)]), (131, .arr 3 false v14), (132, .arr 83 false v15)], 134, 175⟩ Ah_d
noncomputable def Ah_l5 (L : Lv) (k : Nat) (xb xa xc : Int) (xd xe : LL) (xg : Int) (xh xi : LL) (m0 : Nat) (v0 v1 v10 v11 v12 : Int) (v13 : LL) (v14 v15 : Int) (v16 : LL) : Option (Int × Int × Int × LL × LL × Int × Int) := Ak Ab Try.prog (orK L) kp k 52 [.v (.agg [.c (C.int .i64 xb), .c (C.int .i64 xa), .c (C.int .i64 xc), .c (C.row 83 xd), .c (C.row 66 xe)]), .v (.agg [.c (C.int .i64 xg), .c (C.row 25 xh), .c (C.row 66 xi)])] [1, 1, 0, 1, 0, 1, 1, 0, 1, 0] [m0] ⟨[(3, .one (.ptr 128 0)), (4, .one (.ptr 129 0)), (6, .one (.ptr 130 0)), (7, .one (.c (C.int .i64 v0))), (8, .one (.c (C.int .i64 v1)))], [(128, .box 25 [.c (C.int .i64 xg), .c (C.row 25 xh), .c (C.row 66 xi)]), (129, .box 105 [.c (C.int .i64 0), .c (C.int .i64 0), .c (C.int .i64 0), .c (C.nil 83), .c (C.nil 66), .c (C.int .i64 0), .c (C.int .i64 0)]), (130, .box 105 [.c (C.int .i64 v10), .c (C.int .i64 v11), .c (C.int .i64 v12), .arr 131, .c (C.row 66 v13), .c (C.int .i64 v14), .c (C.int .i64 v15)]), (131, .arr 83 false v16)], 133, 175⟩ Ah_d
noncomputable def Ah_l6 (L : Lv) (k : Nat) (xb xa xc : Int) (xd xe : LL) (xg : Int) (xh xi : LL) (m0 : Nat) (v1 v2 v3 v4 v5 : Int) (v6 v12 v13 : LL) : Option (Int × Int × Int × LL × LL × Int × Int) := Ak Ab Try.prog (orK L) kp k 52 [.v (.agg [.c (C.int .i64 xb), .c (C.int .i64 xa), .c (C.int .i64 xc), .c (C.row 83 xd), .c (C.row 66 xe)]), .v (.agg [.c (C.int .i64 xg), .c (C.row 25 xh), .c (C.row 66 xi)])] [1, 1, 1, 0, 1, 0, 1, 1, 1, 1, 1, 0, 1, 0] [m0] ⟨[(2, .one (.ptr 128 0)), (4, .one (.ptr 129 0)), (5, .one (.c (C.int .i64 xb))), (10, .one (.arr 130)), (13, .one (.c (C.int .i64 v1))), (14, .one (.c (C.int .i64 v2)))], [(128, .box 39 [.c (C.int .i64 v3), .c (C.int .i64 v4), .c (C.int .i64 v5), .arr 131, .c (C.row 66 v6)]), (129, .box 105 [.c (C.int .i64 0), .c (C.int .i64 0), .c (C.int .i64 0), .c (C.nil 83), .c (C.nil 66), .c (C.int .i64 0), .c (C.int .i64 0)]), (130, .arr 3 false v12), (131, .arr 83 false v13)], 133, 175⟩ Ah_d
noncomputable def Cc_b (L : Lv) (k : Nat) (xb xa xc : Int) (xd xe : LL) (x1 x2 x3 x4 : Int) : Option (Int × Int × Int × LL × LL) := As Ab Try.prog (orK L) kp k 69 [.v (.agg [.c (C.int .i64 xb), .c (C.int .i64 xa), .c (C.int .i64 xc), .c (C.row 83 xd), .c (C.row 66 xe)]), .v (.one (.c (C.int .i64 x1))), .v (.one (.c (C.int .i64 x2))), .v (.one (.c (C.int .i64 x3))), .v (.one (.c (C.int .i64 x4)))] Cc_d
noncomputable def Ar_b (L : Lv) (k : Nat) (xb : Int) (xa xc : LL) : Option LL := As Ab Try.prog (orK L) kp k 32 [.v (.agg [.c (C.int .i64 xb), .c (C.row 25 xa), .c (C.row 66 xc)])] Ar_d
noncomputable def Ar_l0 (L : Lv) (k : Nat) (xb : Int) (xa xc : LL) (m0 : Nat) : Option LL := Ak Ab Try.prog (orK L) kp k 32 [.v (.agg [.c (C.int .i64 xb), .c (C.row 25 xa), .c (C.row 66 xc)])] [1, 1, 0, 1, 0] [m0] ⟨[(1, .one (.ptr 64 0)), (3, .one (.c (C.nil 25))), (4, .one (.c (C.int .i64 0)))], [(64, .box 25 [.c (C.int .i64 xb), .c (C.row 25 xa), .c (C.row 66 xc)])], 66, 37⟩ Ar_d
noncomputable def Ar_l1 (L : Lv) (k : Nat) (xb : Int) (xa xc : LL) (m0 : Nat) : Option LL := Ak Ab Try.prog (orK L) kp k 32 [.v (.agg [.c (C.int .i64 xb), .c (C.row 25 xa), .c (C.row 66 xc)])] [1, 1, 1, 0, 1, 0] [m0] ⟨[(1, .one (.ptr 64 0)), (3, .one (.c (C.nil 25))), (5, .one (.c (C.int .i64 0)))], [(64, .box 25 [.c (C.int .i64 xb), .c (C.row 25 xa), .c (C.row 66 xc)])], 66, 37⟩ Ar_d
noncomputable def Ar_l2 (L : Lv) (k : Nat) (xb : Int) (xa xc : LL) (m0 : Nat) (v0 : Int) (v4 : LL) : Option LL := Ak Ab Try.prog (orK L) kp k 32 [.v (.agg [.c (C.int .i64 xb), .c (C.row 25 xa), .c (C.row 66 xc)])] [1, 1, 0, 1, 0] [m0] ⟨[(1, .one (.ptr 64 0)), (3, .one (.arr 65)), (4, .one (.c (C.int .i64 v0)))], [(64, .box 25 [.c (C.int .i64 xb), .c (C.row 25 xa), .c (C.row 66 xc)]), (65, .arr 25 false v4)], 67, 37⟩ Ar_d
noncomputable def Ar_l3 (L : Lv) (k : Nat) (xb : Int) (xa xc : LL) (m0 : Nat) (v0 : Int) (v4 : LL) : Option LL := Ak Ab Try.prog (orK L) kp k 32 [.v (.agg [.c (C.int .i64 xb), .c (C.row 25 xa), .c (C.row 66 xc)])] [1, 1, 1, 0, 1, 0] [m0] ⟨[(1, .one (.ptr 64 0)), (3, .one (.arr 65)), (5, .one (.c (C.int .i64 v0)))], [(64, .box 25 [.c (C.int .i64 xb), .c (C.row 25 xa), .c (C.row 66 xc)]), (65, .arr 25 false v4)], 67, 37⟩ Ar_d
noncomputable def Bc_b (L : Lv) (k : Nat) (xb : Int) (xa xc xd : BA) (xe xf : LL) : Option LL := As Ab Try.prog (orK L) kp k 53 [.v (.agg [.c (C.int .i64 xb), .c (C.str xa), .c (C.str xc), .c (C.str xd), .c (C.row 66 xe), .c (C.row 25 xf)])] Bc_d
noncomputable def Bc_l0 (L : Lv) (k : Nat) (xb : Int) (xa xc xd : BA) (xe xf : LL) (m0 : Nat) : Option LL := Ak Ab Try.prog (orK L) kp k 53 [.v (.agg [.c (C.int .i64 xb), .c (C.str xa), .c (C.str xc), .c (C.str xd), .c (C.row 66 xe), .c (C.row 25 xf)])] [1, 1, 0, 1, 0] [m0] ⟨[(1, .one (.ptr 64 0)), (3, .one (.c (C.nil 25))), (4, .one (.c (C.int .i64 0)))], [(64, .box 66 [.c (C.int .i64 xb), .c (C.str xa), .c (C.str xc), .c (C.str xd), .c (C.row 66 xe), .c (C.row 25 xf)])], 66, 38⟩ Bc_d
noncomputable def Bc_l1 (L : Lv) (k : Nat) (xb : Int) (xa xc xd : BA) (xe xf : LL) (m0 : Nat) (v0 : Int) (v7 : LL) : Option LL := Ak Ab Try.prog (orK L) kp k 53 [.v (.agg [.c (C.int .i64 xb), .c (C.str xa), .c (C.str xc), .c (C.str xd), .c (C.row 66 xe), .c (C.row 25 xf)])] [1, 1, 0, 1, 0] [m0] ⟨[(1, .one (.ptr 64 0)), (3, .one (.arr 65)), (4, .one (.c (C.int .i64 v0)))], [(64, .box 66 [.c (C.int .i64 xb), .c (C.str xa), .c (C.str xc), .c (C.str xd), .c (C.row 66 xe), .c (C.row 25 xf)]), (65, .arr 25 false v7)], 67, 38⟩ Bc_d
noncomputable def Bs_b (L : Lv) (k : Nat) (xb xa xc : LL) (xd xe xf : Int) (xj xk : LL) (xg : Int) (xh xi : LL) : Option Int := As Ab Try.prog (orK L) kp k 33 [.v (.agg [.c (C.row 25 xb), .c (C.row 39 xa), .c (C.row 3 xc), .c (C.int .i64 xd), .c (C.int .i64 xe), .c (C.int .i64 xf), .c (C.row 83 xj), .c (C.row 66 xk)]), .v (.agg [.c (C.int .i64 xg), .c (C.row 25 xh), .c (C.row 66 xi)])] Bs_d
noncomputable def Bs_l0 (L : Lv) (k : Nat) (xb xa xc : LL) (xd xe xf : Int) (xj xk : LL) (xg : Int) (xh xi : LL) (m0 : Nat) (v0 : Int) : Option Int := Ak Ab Try.prog (orK L) kp k 33 [.v (.agg [.c (C.row 25 xb), .c (C.row 39 xa), .c (C.row 3 xc), .c (C.int .i64 xd), .c (C.int .i64 xe), .c (C.int .i64 xf), .c (C.row 83 xj), .c (C.row 66 xk)]), .v (.agg [.c (C.int .i64 xg), .c (C.row 25 xh), .c (C.row 66 xi)])] [1, 0, 1, 0] [m0] ⟨[(2, .one (.ptr 128 0)), (3, .one (.ptr 129 0)), (5, .one (.c (C.int .i64 v0)))], [(128, .box 41 [.c (C.row 25 xb), .c (C.row 39 xa), .c (C.row 3 xc), .c (C.int .i64 xd), .c (C.int .i64 xe), .c (C.int .i64 xf), .c (C.row 83 xj), .c (C.row 66 xk)]), (129, .box 25 [.c (C.int .i64 xg), .c (C.row 25 xh), .c (C.row 66 xi)])], 131, 21⟩ Bs_d
noncomputable def Ba_b (L : Lv) (k : Nat) (xb : Int) (xa xc : LL) (xg : Int) (xh xi : LL) : Option Bool := As Ab Try.prog (orK L) kp k 54 [.v (.agg [.c (C.int .i64 xb), .c (C.row 25 xa), .c (C.row 66 xc)]), .v (.agg [.c (C.int .i64 xg), .c (C.row 25 xh), .c (C.row 66 xi)])] Ba_d
noncomputable def Ba_l0 (L : Lv) (k : Nat) (xb : Int) (xa xc : LL) (xg : Int) (xh xi : LL) (m0 : Nat) (v0 : Int) : Option Bool := Ak Ab Try.prog (orK L) kp k 54 [.v (.agg [.c (C.int .i64 xb), .c (C.row 25 xa), .c (C.row 66 xc)]), .v (.agg [.c (C.int .i64 xg), .c (C.row 25 xh), .c (C.row 66 xi)])] [1, 1, 0, 1, 0] [m0] ⟨[(2, .one (.ptr 128 0)), (3, .one (.ptr 129 0)), (5, .one (.c (C.int .i64 v0)))], [(128, .box 25 [.c (C.int .i64 xb), .c (C.row 25 xa), .c (C.row 66 xc)]), (129, .box 25 [.c (C.int .i64 xg), .c (C.row 25 xh), .c (C.row 66 xi)])], 131, 68⟩ Ba_d
noncomputable def Ba_l1 (L : Lv) (k : Nat) (xb : Int) (xa xc : LL) (xg : Int) (xh xi : LL) (m0 : Nat) (v0 : Int) : Option Bool := Ak Ab Try.prog (orK L) kp k 54 [.v (.agg [.c (C.int .i64 xb), .c (C.row 25 xa), .c (C.row 66 xc)]), .v (.agg [.c (C.int .i64 xg), .c (C.row 25 xh), .c (C.row 66 xi)])] [1, 1, 1, 0, 1, 0] [m0] ⟨[(2, .one (.ptr 128 0)), (3, .one (.ptr 129 0)), (6, .one (.c (C.int .i64 v0)))], [(128, .box 25 [.c (C.int .i64 xb), .c (C.row 25 xa), .c (C.row 66 xc)]), (129, .box 25 [.c (C.int .i64 xg), .c (C.row 25 xh), .c (C.row 66 xi)])], 131, 68⟩ Ba_d
noncomputable def Bf_b (L : Lv) (k : Nat) (xb : Int) (xa xc xd : BA) (xe xf : LL) (xg : Int) (xh xi xl : BA) (xm xq : LL) : Option Bool := As Ab Try.prog (orK L) kp k 70 [.v (.agg [.c (C.int .i64 xb), .c (C.str xa), .c (C.str xc), .c (C.str xd), .c (C.row 66 xe), .c (C.row 25 xf)]), .v (.agg [.c (C.int .i64 xg), .c (C.str xh), .c (C.str xi), .c (C.str xl), .c (C.row 66 xm), .c (C.row 25 xq)])] Bf_d
noncomputable def Bf_l0 (L : Lv) (k : Nat) (xb : Int) (xa xc xd : BA) (xe xf : LL) (xg : Int) (xh xi xl : BA) (xm xq : LL) (m0 : Nat) (v0 : Int) : Option Bool := Ak Ab Try.prog (orK L) kp k 70 [.v (.agg [.c (C.int .i64 xb), .c (C.str xa), .c (C.str xc), .c (C.str xd), .c (C.row 66 xe), .c (C.row 25 xf)]), .v (.agg [.c (C.int .i64 xg), .c (C.str xh), .c (C.str xi), .c (C.str xl), .c (C.row 66 xm), .c (C.row 25 xq)])] [1, 1, 0, 1, 0] [m0] ⟨[(2, .one (.ptr 128 0)), (3, .one (.ptr 129 0)), (5, .one (.c (C.int .i64 v0)))], [(128, .box 66 [.c (C.int .i64 xb), .c (C.str xa), .c (C.str xc), .c (C.str xd), .c (C.row 66 xe), .c (C.row 25 xf)]), (129, .box 66 [.c (C.int .i64 xg), .c (C.str xh), .c (C.str xi), .c (C.str xl), .c (C.row 66 xm), .c (C.row 25 xq)])], 131, 82⟩ Bf_d
noncomputable def Bf_l1 (L : Lv) (k : Nat) (xb : Int) (xa xc xd : BA) (xe xf : LL) (xg : Int) (xh xi xl : BA) (xm xq : LL) (m0 : Nat) (v0 : Int) : Option Bool := Ak Ab Try.prog (orK L) kp k 70 [.v (.agg [.c (C.int .i64 xb), .c (C.str xa), .c (C.str xc), .c (C.str xd), .c (C.row 66 xe), .c (C.row 25 xf)]), .v (.agg [.c (C.int .i64 xg), .c (C.str xh), .c (C.str xi), .c (C.str xl), .c (C.row 66 xm), .c (C.row 25 xq)])] [1, 1, 1, 0, 1, 0] [m0] ⟨[(2, .one (.ptr 128 0)), (3, .one (.ptr 129 0)), (6, .one (.c (C.int .i64 v0)))], [(128, .box 66 [.c (C.int .i64 xb), .c (C.str xa), .c (C.str xc), .c (C.str xd), .c (C.row 66 xe), .c (C.row 25 xf)]), (129, .box 66 [.c (C.int .i64 xg), .c (C.str xh), .c (C.str xi), .c (C.str xl), .c (C.row 66 xm), .c (C.row 25 xq)])], 131, 82⟩ Bf_d
noncomputable def Bu_b (L : Lv) (k : Nat) (xb xa xc : LL) (xd xe xf : Int) (xj xk : LL) (xg : Int) (xh xi : BA) (xl : LL) (xm : BA) (xn xo : Bool) (xp : BA) (xx xy : Bool) (xz : BA) : Option (Bool × Bool × BA) := As Ab Try.prog (orK L) kp k 13 [.v (.agg [.c (C.row 25 xb), .c (C.row 39 xa), .c (C.row 3 xc), .c (C.int .i64 xd), .c (C.int .i64 xe), .c (C.int .i64 xf), .c (C.row 83 xj), .c (C.row 66 xk)]), .v (.agg [.c (C.int .i64 xg), .c (C.str xh), .c (C.str xi), .c (C.row 86 xl), .c (C.str xm)]), .v (.agg [.c (C.bool xn), .c (C.bool xo), .c (C.str xp)]), .v (.agg [.c (C.bool xx), .c (C.bool xy), .c (C.str xz)])] Bu_d
noncomputable def Bu_l0 (L : Lv) (k : Nat) (xb xa xc : LL) (xd xe xf : Int) (xj xk : LL) (xg : Int) (xh xi : BA) (xl : LL) (xm : BA) (xn xo : Bool) (xp : BA) (xx xy : Bool) (xz : BA) (m0 : Nat) (v1 : Int) (v10 v11 v12 : LL) (v13 v14 v15 : Int) (v16 v17 : LL) (v18 : Int) (v19 v20 : BA) (v21 : LL) (v22 : BA) (v23 v24 : Bool) (v25 : BA) (v26 v27 : Bool) (v28 : BA) (v29 : LL) : Option (Bool × Bool × BA) := Ak Ab Try.prog (orK L) kp k 13 [.v (.agg [.c (C.row 25 xb), .c (C.row 39 xa), .c (C.row 3 xc), .c (C.int .i64 xd), .c (C.int .i64 xe), .c (C.int .i64 xf), .c (C.row 83 xj), .c (C.row 66 xk)]), .v (.agg [.c (C.int .i64 xg), .c (C.str xh), .c (C.str xi), .c (C.row 86 xl), .c (C.str xm)]), .v (.agg [.c (C.bool xn), .c (C.bool xo), .c (C.str xp)]), .v (.agg [.c (C.bool xx), .c (C.bool xy), .c (C.str xz)])] [1, 1, 0, 1, 0] [m0] ⟨[(5, .one (.ptr 256 0)), (8, .one (.ptr 257 0)), (9, .one (.ptr 258 0)), (22, .one (.c (C.int .i64 (xa.length : Int)))), (23, .one (.c (C.int .i64 v1)))], [(256, .box 30 [.c (C.int .i64 xg), .c (C.str xh), .c (C.str xi), .c (C.row 86 xl), .c (C.str xm)]), (257, .box 44 [.c (C.bool false), .c (C.bool false), .c (C.str (⟨#[]⟩ : BA))]), (258, .box 79 [.c (C.row 25 v10), .c (C.row 39 v11), .c (C.row 3 v12), .c (C.int .i64 v13), .c (C.int .i64 v14), .c (C.int .i64 v15), .c (C.row 83 v16), .c (C.row 66 v17), .c (C.int .i64 v18), .c (C.str v19), .c (C.str v20), .c (C.row 86 v21), .c (C.str v22), .c (C.bool v23), .c (C.bool v24), .c (C.str v25), .c (C.bool v26), .c (C.bool v27), .c (C.str v28), .arr 259]), (259, .arr 5 false v29)], 261, 39⟩ Bu_d
noncomputable def B4_b (L : Lv) (k : Nat) (xb xa xc : LL) (xd xe xf : Int) (xj xk : LL) : Option Int := As Ab Try.prog (orK L) kp k 35 [.v (.agg [.c (C.row 25 xb), .c (C.row 39 xa), .c (C.row 3 xc), .c (C.int .i64 xd), .c (C.int .i64 xe), .c (C.int .i64 xf), .c (C.row 83 xj), .c (C.row 66 xk)])] B4_d
noncomputable def B4_l0 (L : Lv) (k : Nat) (xb xa xc : LL) (xd xe xf : Int) (xj xk : LL) (m0 : Nat) (v0 v3 : Int) : Option Int := Ak Ab Try.prog (orK L) kp k 35 [.v (.agg [.c (C.row 25 xb), .c (C.row 39 xa), .c (C.row 3 xc), .c (C.int .i64 xd), .c (C.int .i64 xe), .c (C.int .i64 xf), .c (C.row 83 xj), .c (C.row 66 xk)])] [1, 1, 0, 1, 0] [m0] ⟨[(3, .one (.c (C.int .i64 v0))), (7, .one (.c (C.row 39 xa))), (8, .one (.c (C.int .i64 (xa.length : Int)))), (9, .one (.c (C.int .i64 v3)))], [], 65, 19⟩ B4_d
noncomputable def Ap_b (L : Lv) (k : Nat) (xb xa xc : LL) (xd xe xf : Int) (xj xk : LL) (xv : Int) (xw xs : BA) (xr : LL) (xt : BA) (xu yl : Bool) (ym : BA) (yn yo : Bool) (yp : BA) (yk : LL) (x1 : Int) : Option (LL × LL × LL × Int × Int × Int × LL × LL × Int × BA × BA × LL × BA × Bool × Bool × BA × Bool × Bool × BA × LL) := As Ab Try.prog (orK L) kp k 36 [.ref 79 [.d (C.row 25 xb), .d (C.row 39 xa), .d (C.row 3 xc), .d (C.int .i64 xd), .d (C.int .i64 xe), .d (C.int .i64 xf), .d (C.row 83 xj), .d (C.row 66 xk), .d (C.int .i64 xv), .d (C.str xw), .d (C.str xs), .d (C.row 86 xr), .d (C.str xt), .d (C.bool xu), .d (C.bool yl), .d (C.str ym), .d (C.bool yn), .d (C.bool yo), .d (C.str yp), .own 5 yk] 0, .v (.one (.c (C.int .i64 x1)))] Ap_d
noncomputable def Ap_l0 (L : Lv) (k : Nat) (xb xa xc : LL) (xd xe xf : Int) (xj xk : LL) (xv : Int) (xw xs : BA) (xr : LL) (xt : BA) (xu yl : Bool) (ym : BA) (yn yo : Bool) (yp : BA) (yk : LL) (x1 : Int) (m0 : Nat) (v1 : Bool) (v26 : LL) : Option (LL × LL × LL × Int × Int × Int × LL × LL × Int × BA × BA × LL × BA × Bool × Bool × BA × Bool × Bool × BA × LL) := Ak Ab Try.prog (orK L) kp k 36 [.ref 79 [.d (C.row 25 xb), .d (C.row 39 xa), .d (C.row 3 xc), .d (C.int .i64 xd), .d (C.int .i64 xe), .d (C.int .i64 xf), .d (C.row 83 xj), .d (C.row 66 xk), .d (C.int .i64 xv), .d (C.str xw), .d (C.str xs), .d (C.row 86 xr), .d (C.str xt), .d (C.bool xu), .d (C.bool yl), .d (C.str ym), .d (C.bool yn), .d (C.bool yo), .d (C.str yp), .own 5 yk] 0, .v (.one (.c (C.int .i64 x1)))] [1, 1, 1, 1, 0] [m0] ⟨[(0, .one (.ptr 0 0)), (4, .one (.ptr 129 0)), (5, .one (.c (C.int .i64 (gi (xc.getD x1.toNat []) 0)))), (6, .one (.arr 130)), (7, .one (.c (C.bool v1)))], [(0, .box 79 [.c (C.row 25 xb), .c (C.row 39 xa), .c (C.row 3 xc), .c (C.int .i64 xd), .c (C.int .i64 xe), .c (C.int .i64 xf), .c (C.row 83 xj), .c (C.row 66 xk), .c (C.int .i64 xv), .c (C.str xw), .c (C.str xs), .c (C.row 86 xr), .c (C.str xt), .c (C.bool xu), .c (C.bool yl), .c (C.str ym), .c (C.bool yn), .c (C.bool yo), .c (C.str yp), .arr 131]), (129, .box 39 [.c (C.int .i64 (gi (xa.getD x1.toNat []) 0)), .c (C.int .i64 (gi (xa.getD x1.toNat []) 1)), .c (C.int .i64 (gi (xa.getD x1.toNat []) 2)), .c (C.row 83 (gr (xa.getD x1.toNat []) 3)), .c (C.row 66 (gr (xa.getD x1.toNat []) 4))]), (130, .arr 4 false v26), (131, .arr 5 false (yk.set ((IntKind.i64.wrap ((gi (xc.getD x1.toNat []) 0) + (gi (xa.getD x1.toNat []) 2))).toNat) ((yk.getD ((IntKind.i64.wrap ((gi (xc.getD x1.toNat []) 0) + (gi (xa.getD x1.toNat []) 2))).toNat) []).set 0 (C.int .u8 1))))], 133, 85⟩ Ap_d
noncomputable def Ap_l1 (L : Lv) (k : Nat) (xb xa xc : LL) (xd xe xf : Int) (xj xk : LL) (xv : Int) (xw xs : BA) (xr : LL) (xt : BA) (xu yl : Bool) (ym : BA) (yn yo : Bool) (yp : BA) (yk : LL) (x1 : Int) (m0 m1 : Nat) (v4 : Int) (v29 : LL) : Option (LL × LL × LL × Int × Int × Int × LL × LL × Int × BA × BA × LL × BA × Bool × Bool × BA × Bool × Bool × BA × LL) := Ak Ab Try.prog (orK L) kp k 36 [.ref 79 [.d (C.row 25 xb), .d (C.row 39 xa), .d (C.row 3 xc), .d (C.int .i64 xd), .d (C.int .i64 xe), .d (C.int .i64 xf), .d (C.row 83 xj), .d (C.row 66 xk), .d (C.int .i64 xv), .d (C.str xw), .d (C.str xs), .d (C.row 86 xr), .d (C.str xt), .d (C.bool xu), .d (C.bool yl), .d (C.str ym), .d (C.bool yn), .d (C.bool yo), .d (C.str yp), .own 5 yk] 0, .v (.one (.c (C.int .i64 x1)))] [1, 1, 1, 1, 0, 0, 1, 0, 1, 1, 0] [m0, m1] ⟨[(0, .one (.ptr 0 0)), (4, .one (.ptr 129 0)), (5, .one (.c (C.int .i64 (gi (xc.getD x1.toNat []) 0)))), (6, .one (.arr 130)), (7, .one (.c (C.bool false))), (51, .one (.c (C.row 83 (gr (xa.getD x1.toNat []) 3)))), (52, .one (.c (C.int .i64 ((gr (xa.getD x1.toNat []) 3).length : Int)))), (53, .one (.c (C.int .i64 v4)))], [(0, .box 79 [.c (C.row 25 xb), .c (C.row 39 xa), .c (C.row 3 xc), .c (C.int .i64 xd), .c (C.int .i64 xe), .c (C.int .i64 xf), .c (C.row 83 xj), .c (C.row 66 xk), .c (C.int .i64 xv), .c (C.str xw), .c (C.str xs), .c (C.row 86 xr), .c (C.str xt), .c (C.bool xu), .c (C.bool yl), .c (C.str ym), .c (C.bool yn), .c (C.bool yo), .c (C.str yp), .arr 131]), (129, .box 39 [.c (C.int .i64 (gi (xa.getD x1.toNat []) 0)), .c (C.int .i64 (gi (xa.getD x1.toNat []) 1)), .c (C.int .i64 (gi (xa.getD x1.toNat []) 2)), .c (C.row 83 (gr (xa.getD x1.toNat []) 3)), .c (C.row 66 (gr (xa.getD x1.toNat []) 4))]), (130, .arr 4 false v29), (131, .arr 5 false (yk.set ((IntKind.i64.wrap ((gi (xc.getD x1.toNat []) 0) + (gi (xa.getD x1.toNat []) 2))).toNat) ((yk.getD ((IntKind.i64.wrap ((gi (xc.getD x1.toNat []) 0) + (gi (xa.getD x1.toNat []) 2))).toNat) []).set 0 (C.int .u8 1))))], 133, 85⟩ Ap_d
noncomputable def Ap_l2 (L : Lv) (k : Nat) (xb xa xc : LL) (xd xe xf : Int) (xj xk : LL) (xv : Int) (xw xs : BA) (xr : LL) (xt : BA) (xu yl : Bool) (ym : BA) (yn yo : Bool) (yp : BA) (yk : LL) (x1 : Int) (m0 m1 : Nat) (v1 : Bool) (v4 : Int) (v5 v6 v7 : LL) (v8 v9 v10 : Int) (v11 v12 : LL) (v13 : Int) (v14 v15 : BA) (v16 : LL) (v17 : BA) (v18 v19 : Bool) (v20 : BA) (v21 v22 : Bool) (v23 : BA) (v29 v30 : LL) : Option (LL × LL × LL × Int × Int × Int × LL × LL × Int × BA × BA × LL × BA × Bool × Bool × BA × Bool × Bool × BA × LL) := Ak Ab Try.prog (orK L) kp k 36 [.ref 79 [.d (C.row 25 xb), .d (C.row 39 xa), .d (C.row 3 xc), .d (C.int .i64 xd), .d (C.int .i64 xe), .d (C.int .i64 xf), .d (C.row 83 xj), .d (C.row 66 xk), .d (C.int .i64 xv), .d (C.str xw), .d (C.str xs), .d (C.row 86 xr), .d (C.str xt), .d (C.bool xu), .d (C.bool yl), .d (C.str ym), .d (C.bool yn), .d (C.bool yo), .d (C.str yp), .own 5 yk] 0, .v (.one (.c (C.int .i64 x1)))] [1, 1, 1, 1, 0, 0, 1, 0, 1, 1, 0] [m0, m1] ⟨[(0, .one (.ptr 0 0)), (4, .one (.ptr 129 0)), (5, .one (.c (C.int .i64 (gi (xc.getD x1.toNat []) 0)))), (6, .one (.arr 130)), (7, .one (.c (C.bool v1))), (51, .one (.c (C.row 83 (gr (xa.getD x1.toNat []) 3)))), (52, .one (.c (C.int .i64 ((gr (xa.getD x1.toNat []) 3).length : Int)))), (53, .one (.c (C.int .i64 v4)))], [(0, .box 79 [.c (C.row 25 v5), .c (C.row 39 v6), .c (C.row 3 v7), .c (C.int .i64 v8), .c (C.int .i64 v9), .c (C.int .i64 v10), .c (C.row 83 v11), .c (C.row 66 v12), .c (C.int .i64 v13), .c (C.str v14), .c (C.str v15), .c (C.row 86 v16), .c (C.str v17), .c (C.bool v18), .c (C.bool v19), .c (C.str v20), .c (C.bool v21), .c (C.bool v22), .c (C.str v23), .arr 131]), (129, .box 39 [.c (C.int .i64 (gi (xa.getD x1.toNat []) 0)), .c (C.int .i64 (gi (xa.getD x1.toNat []) 1)), .c (C.int .i64 (gi (xa.getD x1.toNat []) 2)), .c (C.row 83 (gr (xa.getD x1.toNat []) 3)), .c (C.row 66 (gr (xa.getD x1.toNat []) 4))]), (130, .arr 4 true v29), (131, .arr 5 false v30)], 133, 85⟩ Ap_d
noncomputable def Ap_l3 (L : Lv) (k : Nat) (xb xa xc : LL) (xd xe xf : Int) (xj xk : LL) (xv : Int) (xw xs : BA) (xr : LL) (xt : BA) (xu yl : Bool) (ym : BA) (yn yo : Bool) (yp : BA) (yk : LL) (x1 : Int) (m0 : Nat) (v1 : Bool) (v2 v3 v4 : LL) (v5 v6 v7 : Int) (v8 v9 : LL) (v10 : Int) (v11 v12 : BA) (v13 : LL) (v14 : BA) (v15 v16 : Bool) (v17 : BA) (v18 v19 : Bool) (v20 : BA) (v26 v27 : LL) : Option (LL × LL × LL × Int × Int × Int × LL × LL × Int × BA × BA × LL × BA × Bool × Bool × BA × Bool × Bool × BA × LL) := Ak Ab Try.prog (orK L) kp k 36 [.ref 79 [.d (C.row 25 xb), .d (C.row 39 xa), .d (C.row 3 xc), .d (C.int .i64 xd), .d (C.int .i64 xe), .d (C.int .i64 xf), .d (C.row 83 xj), .d (C.row 66 xk), .d (C.int .i64 xv), .d (C.str xw), .d (C.str xs), .d (C.row 86 xr), .d (C.str xt), .d (C.bool xu), .d (C.bool yl), .d (C.str ym), .d (C.bool yn), .d (C.bool yo), .d (C.str yp), .own 5 yk] 0, .v (.one (.c (C.int .i64 x1)))] [1, 1, 1, 1, 0] [m0] ⟨[(0, .one (.ptr 0 0)), (4, .one (.ptr 129 0)), (5, .one (.c (C.int .i64 (gi (xc.getD x1.toNat []) 0)))), (6, .one (.arr 130)), (7, .one (.c (C.bool v1)))], [(0, .box 79 [.c (C.row 25 v2), .c (C.row 39 v3), .c (C.row 3 v4), .c (C.int .i64 v5), .c (C.int .i64 v6), .c (C.int .i64 v7), .c (C.row 83 v8), .c (C.row 66 v9), .c (C.int .i64 v10), .c (C.str v11), .c (C.str v12), .c (C.row 86 v13), .c (C.str v14), .c (C.bool v15), .c (C.bool v16), .c (C.str v17), .c (C.bool v18), .c (C.bool v19), .c (C.str v20), .arr 131]), (129, .box 39 [.c (C.int .i64 (gi (xa.getD x1.toNat []) 0)), .c (C.int .i64 (gi (xa.getD x1.toNat []) 1)), .c (C.int .i64 (gi (xa.getD x1.toNat []) 2)), .c (C.row 83 (gr (xa.getD x1.toNat []) 3)), .c (C.row 66 (gr (xa.getD x1.toNat []) 4))]), (130, .arr 4 true v26), (131, .arr 5 false v27)], 133, 85⟩ Ap_d
noncomputable def Bk_b (L : Lv) (k : Nat) (xb xa xc : LL) (xd xe xf : Int) (xj xk : LL) (xg xh xi : Int) (xl xm : LL) (xn : Int) (xo xp : BA) (yi : LL) (yj : BA) (x3 : LL) : Option LL := As Ab Try.prog (orK L) kp k 43 [.v (.agg [.c (C.row 25 xb), .c (C.row 39 xa), .c (C.row 3 xc), .c (C.int .i64 xd), .c (C.int .i64 xe), .c (C.int .i64 xf), .c (C.row 83 xj), .c (C.row 66 xk)]), .v (.agg [.c (C.int .i64 xg), .c (C.int .i64 xh), .c (C.int .i64 xi), .c (C.row 83 xl), .c (C.row 66 xm)]), .v (.agg [.c (C.int .i64 xn), .c (C.str xo), .c (C.str xp), .c (C.row 86 yi), .c (C.str yj)]), .v (.one (.c (C.row 5 x3)))] Bk_d
noncomputable def Bk_l0 (L : Lv) (k : Nat) (xb xa xc : LL) (xd xe xf : Int) (xj xk : LL) (xg xh xi : Int) (xl xm : LL) (xn : Int) (xo xp : BA) (yi : LL) (yj : BA) (x3 : LL) (m0 : Nat) : Option LL := Ak Ab Try.prog (orK L) kp k 43 [.v (.agg [.c (C.row 25 xb), .c (C.row 39 xa), .c (C.row 3 xc), .c (C.int .i64 xd), .c (C.int .i64 xe), .c (C.int .i64 xf), .c (C.row 83 xj), .c (C.row 66 xk)]), .v (.agg [.c (C.int .i64 xg), .c (C.int .i64 xh), .c (C.int .i64 xi), .c (C.row 83 xl), .c (C.row 66 xm)]), .v (.agg [.c (C.int .i64 xn), .c (C.str xo), .c (C.str xp), .c (C.row 86 yi), .c (C.str yj)]), .v (.one (.c (C.row 5 x3)))] [1, 1, 1, 0, 1, 0] [m0] ⟨[(9, .one (.ptr 256 0)), (10, .one (.c (C.nil 4))), (19, .one (.c (C.row 66 xm))), (20, .one (.c (C.int .i64 (xm.length : Int)))), (21, .one (.c (C.int .i64 0)))], [(256, .box 112 [.c (C.row 25 xb), .c (C.row 39 xa), .c (C.row 3 xc), .c (C.int .i64 xd), .c (C.int .i64 xe), .c (C.int .i64 xf), .c (C.row 83 xj), .c (C.row 66 xk), .c (C.int .i64 xn), .c (C.str xo), .c (C.str xp), .c (C.row 86 yi), .c (C.str yj), .c (C.row 5 x3)])], 258, 33⟩ Bk_d
noncomputable def Bk_l1 (L : Lv) (k : Nat) (xb xa xc : LL) (xd xe xf : Int) (xj xk : LL) (xg xh xi : Int) (xl xm : LL) (xn : Int) (xo xp : BA) (yi : LL) (yj : BA) (x3 : LL) (m0 : Nat) (v2 : Int) (v3 v4 v5 : LL) (v6 v7 v8 : Int) (v9 v10 : LL) (v11 : Int) (v12 v13 : BA) (v14 : LL) (v15 : BA) (v16 v17 : LL) : Option LL := Ak Ab Try.prog (orK L) kp k 43 [.v (.agg [.c (C.row 25 xb), .c (C.row 39 xa), .c (C.row 3 xc), .c (C.int .i64 xd), .c (C.int .i64 xe), .c (C.int .i64 xf), .c (C.row 83 xj), .c (C.row 66 xk)]), .v (.agg [.c (C.int .i64 xg), .c (C.int .i64 xh), .c (C.int .i64 xi), .c (C.row 83 xl), .c (C.row 66 xm)]), .v (.agg [.c (C.int .i64 xn), .c (C.str xo), .c (C.str xp), .c (C.row 86 yi), .c (C.str yj)]), .v (.one (.c (C.row 5 x3)))] [1, 1, 1, 0, 1, 0] [m0] ⟨[(9, .one (.ptr 256 0)), (10, .one (.arr 257)), (19, .one (.c (C.row 66 xm))), (20, .one (.c (C.int .i64 (xm.length : Int)))), (21, .one (.c (C.int .i64 v2)))], [(256, .box 112 [.c (C.row 25 v3), .c (C.row 39 v4), .c (C.row 3 v5), .c (C.int .i64 v6), .c (C.int .i64 v7), .c (C.int .i64 v8), .c (C.row 83 v9), .c (C.row 66 v10), .c (C.int .i64 v11), .c (C.str v12), .c (C.str v13), .c (C.row 86 v14), .c (C.str v15), .c (C.row 5 v16)]), (257, .arr 4 false v17)], 259, 33⟩ Bk_d
noncomputable def Cy_b (L : Lv) (k : Nat) (xb xa xc : LL) (xd xe xf : Int) (xj xk : LL) (xv : Int) (xw xs : BA) (xr : LL) (xt : BA) (xu : LL) (xg : Int) (xh xi xl : BA) (xm xq : LL) : Option (Bool × LL × LL × LL × Int × Int × Int × LL × LL × Int × BA × BA × LL × BA × LL) := As Ab Try.prog (orK L) kp k 58 [.ref 112 [.d (C.row 25 xb), .d (C.row 39 xa), .d (C.row 3 xc), .d (C.int .i64 xd), .d (C.int .i64 xe), .d (C.int .i64 xf), .d (C.row 83 xj), .d (C.row 66 xk), .d (C.int .i64 xv), .d (C.str xw), .d (C.str xs), .d (C.row 86 xr), .d (C.str xt), .d (C.row 5 xu)] 0, .v (.agg [.c (C.int .i64 xg), .c (C.str xh), .c (C.str xi), .c (C.str xl), .c (C.row 66 xm), .c (C.row 25 xq)])] Cy_d
noncomputable def Bz_b (L : Lv) (k : Nat) (xb xa xc : LL) (xd xe xf : Int) (xj xk : LL) (xv : Int) (xw xs : BA) (xr : LL) (xt : BA) (xu : LL) (xg xh : BA) : Option (BA × Bool × LL × LL × LL × Int × Int × Int × LL × LL × Int × BA × BA × LL × BA × LL) := As Ab Try.prog (orK L) kp k 73 [.ref 112 [.d (C.row 25 xb), .d (C.row 39 xa), .d (C.row 3 xc), .d (C.int .i64 xd), .d (C.int .i64 xe), .d (C.int .i64 xf), .d (C.row 83 xj), .d (C.row 66 xk), .d (C.int .i64 xv), .d (C.str xw), .d (C.str xs), .d (C.row 86 xr), .d (C.str xt), .d (C.row 5 xu)] 0, .v (.agg [.c (C.str xg), .c (C.str xh)])] Bz_d
noncomputable def Bz_l0 (L : Lv) (k : Nat) (xb xa xc : LL) (xd xe xf : Int) (xj xk : LL) (xv : Int) (xw xs : BA) (xr : LL) (xt : BA) (xu : LL) (xg xh : BA) (m0 : Nat) (v2 : Int) : Option (BA × Bool × LL × LL × LL × Int × Int × Int × LL × LL × Int × BA × BA × LL × BA × LL) := Ak Ab Try.prog (orK L) kp k 73 [.ref 112 [.d (C.row 25 xb), .d (C.row 39 xa), .d (C.row 3 xc), .d (C.int .i64 xd), .d (C.int .i64 xe), .d (C.int .i64 xf), .d (C.row 83 xj), .d (C.row 66 xk), .d (C.int .i64 xv), .d (C.str xw), .d (C.str xs), .d (C.row 86 xr), .d (C.str xt), .d (C.row 5 xu)] 0, .v (.agg [.c (C.str xg), .c (C.str xh)])] [1, 0, 1, 0] [m0] ⟨[(0, .one (.ptr 0 0)), (3, .one (.ptr 129 0)), (12, .one (.c (C.row 86 xr))), (13, .one (.c (C.int .i64 (xr.length : Int)))), (14, .one (.c (C.int .i64 v2)))], [(0, .box 112 [.c (C.row 25 xb), .c (C.row 39 xa), .c (C.row 3 xc), .c (C.int .i64 xd), .c (C.int .i64 xe), .c (C.int .i64 xf), .c (C.row 83 xj), .c (C.row 66 xk), .c (C.int .i64 xv), .c (C.str xw), .c (C.str xs), .c (C.row 86 xr), .c (C.str xt), .c (C.row 5 xu)]), (129, .box 27 [.c (C.str xg), .c (C.str xh)])], 131, 31⟩ Bz_d
noncomputable def Cm_b (L : Lv) (k : Nat) (x0 xg xh xi : LL) (xl xm xq : Int) (ye yf : LL) (yg : Int) (yh ya : BA) (yb : LL) (yc : BA) (yd : LL) : Option Bool := As Ab Try.prog (orK L) kp k 74 [.v (.one (.c (C.row 66 x0))), .fnr 75 true 112 [C.row 25 xg, C.row 39 xh, C.row 3 xi, C.int .i64 xl, C.int .i64 xm, C.int .i64 xq, C.row 83 ye, C.row 66 yf, C.int .i64 yg, C.str yh, C.str ya, C.row 86 yb, C.str yc, C.row 5 yd] 0] Cm_d
noncomputable def Cn_b (L : Lv) (k : Nat) (x0 xg xh xi : LL) (xl xm xq : Int) (ye yf : LL) (yg : Int) (yh ya : BA) (yb : LL) (yc : BA) (yd : LL) : Option Bool := As Ab Try.prog (orK L) kp k 74 [.v (.one (.c (C.row 66 x0))), .fnr 58 true 112 [C.row 25 xg, C.row 39 xh, C.row 3 xi, C.int .i64 xl, C.int .i64 xm, C.int .i64 xq, C.row 83 ye, C.row 66 yf, C.int .i64 yg, C.str yh, C.str ya, C.row 86 yb, C.str yc, C.row 5 yd] 0] Cn_d
noncomputable def Co_b (L : Lv) (k : Nat) (x0 xg xh xi : LL) (xl xm xq : Int) (ye yf : LL) (yg : Int) (yh ya : BA) (yb : LL) (yc : BA) (yd : LL) : Option Bool := As Ab Try.prog (orK L) kp k 76 [.v (.one (.c (C.row 25 x0))), .fnr 77 true 112 [C.row 25 xg, C.row 39 xh, C.row 3 xi, C.int .i64 xl, C.int .i64 xm, C.int .i64 xq, C.row 83 ye, C.row 66 yf, C.int .i64 yg, C.str yh, C.str ya, C.row 86 yb, C.str yc, C.row 5 yd] 0] Co_d
noncomputable def B6_b (L : Lv) (k : Nat) (x0 xg xh xi : LL) (xl xm xq : Int) (ye yf : LL) (yg : Int) (yh ya : BA) (yb : LL) (yc : BA) (yd : LL) : Option Int := As Ab Try.prog (orK L) kp k 90 [.v (.one (.c (C.row 66 x0))), .fnr 75 true 112 [C.row 25 xg, C.row 39 xh, C.row 3 xi, C.int .i64 xl, C.int .i64 xm, C.int .i64 xq, C.row 83 ye, C.row 66 yf, C.int .i64 yg, C.str yh, C.str ya, C.row 86 yb, C.str yc, C.row 5 yd] 0] B6_d
noncomputable def B6_l0 (L : Lv) (k : Nat) (x0 xg xh xi : LL) (xl xm xq : Int) (ye yf : LL) (yg : Int) (yh ya : BA) (yb : LL) (yc : BA) (yd : LL) (m0 : Nat) (v3 : Int) : Option Int := Ak Ab Try.prog (orK L) kp k 90 [.v (.one (.c (C.row 66 x0))), .fnr 75 true 112 [C.row 25 xg, C.row 39 xh, C.row 3 xi, C.int .i64 xl, C.int .i64 xm, C.int .i64 xq, C.row 83 ye, C.row 66 yf, C.int .i64 yg, C.str yh, C.str ya, C.row 86 yb, C.str yc, C.row 5 yd] 0] [1, 0, 1, 0] [m0] ⟨[(0, .one (.c (C.row 66 x0))), (1, .fnr 75 true 112 [C.row 25 xg, C.row 39 xh, C.row 3 xi, C.int .i64 xl, C.int .i64 xm, C.int .i64 xq, C.row 83 ye, C.row 66 yf, C.int .i64 yg, C.str yh, C.str ya, C.row 86 yb, C.str yc, C.row 5 yd] 0), (7, .one (.c (C.int .i64 (x0.length : Int)))), (8, .one (.c (C.int .i64 v3)))], [], 129, 19⟩ B6_d
noncomputable def B7_b (L : Lv) (k : Nat) (x0 xg xh xi : LL) (xl xm xq : Int) (ye yf : LL) (yg : Int) (yh ya : BA) (yb : LL) (yc : BA) (yd : LL) : Option Int := As Ab Try.prog (orK L) kp k 90 [.v (.one (.c (C.row 66 x0))), .fnr 58 true 112 [C.row 25 xg, C.row 39 xh, C.row 3 xi, C.int .i64 xl, C.int .i64 xm, C.int .i64 xq, C.row 83 ye, C.row 66 yf, C.int .i64 yg, C.str yh, C.str ya, C.row 86 yb, C.str yc, C.row 5 yd] 0] B7_d
noncomputable def B7_l0 (L : Lv) (k : Nat) (x0 xg xh xi : LL) (xl xm xq : Int) (ye yf : LL) (yg : Int) (yh ya : BA) (yb : LL) (yc : BA) (yd : LL) (m0 : Nat) (v3 : Int) : Option Int := Ak Ab Try.prog (orK L) kp k 90 [.v (.one (.c (C.row 66 x0))), .fnr 58 true 112 [C.row 25 xg, C.row 39 xh, C.row 3 xi, C.int .i64 xl, C.int .i64 xm, C.int .i64 xq, C.row 83 ye, C.row 66 yf, C.int .i64 yg, C.str yh, C.str ya, C.row 86 yb, C.str yc, C.row 5 yd] 0] [1, 0, 1, 0] [m0] ⟨[(0, .one (.c (C.row 66 x0))), (1, .fnr 58 true 112 [C.row 25 xg, C.row 39 xh, C.row 3 xi, C.int .i64 xl, C.int .i64 xm, C.int .i64 xq, C.row 83 ye, C.row 66 yf, C.int .i64 yg, C.str yh, C.str ya, C.row 86 yb, C.str yc, C.row 5 yd] 0), (7, .one (.c (C.int .i64 (x0.length : Int)))), (8, .one (.c (C.int .i64 v3)))], [], 129, 19⟩ B7_d
noncomputable def B8_b (L : Lv) (k : Nat) (x0 xg xh xi : LL) (xl xm xq : Int) (ye yf : LL) (yg : Int) (yh ya : BA) (yb : LL) (yc : BA) (yd : LL) : Option Int := As Ab Try.prog (orK L) kp k 91 [.v (.one (.c (C.row 25 x0))), .fnr 77 true 112 [C.row 25 xg, C.row 39 xh, C.row 3 xi, C.int .i64 xl, C.int .i64 xm, C.int .i64 xq, C.row 83 ye, C.row 66 yf, C.int .i64 yg, C.str yh, C.str ya, C.row 86 yb, C.str yc, C.row 5 yd] 0] B8_d
noncomputable def B8_l0 (L : Lv) (k : Nat) (x0 xg xh xi : LL) (xl xm xq : Int) (ye yf : LL) (yg : Int) (yh ya : BA) (yb : LL) (yc : BA) (yd : LL) (m0 : Nat) (v3 : Int) : Option Int := Ak Ab Try.prog (orK L) kp k 91 [.v (.one (.c (C.row 25 x0))), .fnr 77 true 112 [C.row 25 xg, C.row 39 xh, C.row 3 xi, C.int .i64 xl, C.int .i64 xm, C.int .i64 xq, C.row 83 ye, C.row 66 yf, C.int .i64 yg, C.str yh, C.str ya, C.row 86 yb, C.str yc, C.row 5 yd] 0] [1, 0, 1, 0] [m0] ⟨[(0, .one (.c (C.row 25 x0))), (1, .fnr 77 true 112 [C.row 25 xg, C.row 39 xh, C.row 3 xi, C.int .i64 xl, C.int .i64 xm, C.int .i64 xq, C.row 83 ye, C.row 66 yf, C.int .i64 yg, C.str yh, C.str ya, C.row 86 yb, C.str yc, C.row 5 yd] 0), (7, .one (.c (C.int .i64 (x0.length : Int)))), (8, .one (.c (C.int .i64 v3)))], [], 129, 19⟩ B8_d
noncomputable def Dm_b (L : Lv) (k : Nat) (xb xa xc : LL) (xd xe xf : Int) (xj xk : LL) (xv : Int) (xw xs : BA) (xr : LL) (xt : BA) (xu : LL) (xg : Int) (xh xi xl : BA) (xm xq : LL) : Option Bool := As Ab Try.prog (orK L) kp k 75 [.rop 112 [C.row 25 xb, C.row 39 xa, C.row 3 xc, C.int .i64 xd, C.int .i64 xe, C.int .i64 xf, C.row 83 xj, C.row 66 xk, C.int .i64 xv, C.str xw, C.str xs, C.row 86 xr, C.str xt, C.row 5 xu] 0, .v (.agg [.c (C.int .i64 xg), .c (C.str xh), .c (C.str xi), .c (C.str xl), .c (C.row 66 xm), .c (C.row 25 xq)])] Dm_d
noncomputable def Cz_b (L : Lv) (k : Nat) (xb xa xc : LL) (xd xe xf : Int) (xj xk : LL) (xv : Int) (xw xs : BA) (xr : LL) (xt : BA) (xu : LL) (xg : Int) (xh xi xl : BA) (xm xq : LL) : Option Bool := As Ab Try.prog (orK L) kp k 58 [.rop 112 [C.row 25 xb, C.row 39 xa, C.row 3 xc, C.int .i64 xd, C.int .i64 xe, C.int .i64 xf, C.row 83 xj, C.row 66 xk, C.int .i64 xv, C.str xw, C.str xs, C.row 86 xr, C.str xt, C.row 5 xu] 0, .v (.agg [.c (C.int .i64 xg), .c (C.str xh), .c (C.str xi), .c (C.str xl), .c (C.row 66 xm), .c (C.row 25 xq)])] Cz_d
noncomputable def De_b (L : Lv) (k : Nat) (xb xa xc : LL) (xd xe xf : Int) (xj xk : LL) (xv : Int) (xw xs : BA) (xr : LL) (xt : BA) (xu : LL) (xg : Int) (xh xi : LL) : Option Bool := As Ab Try.prog (orK L) kp k 77 [.rop 112 [C.row 25 xb, C.row 39 xa, C.row 3 xc, C.int .i64 xd, C.int .i64 xe, C.int .i64 xf, C.row 83 xj, C.row 66 xk, C.int .i64 xv, C.str xw, C.str xs, C.row 86 xr, C.str xt, C.row 5 xu] 0, .v (.agg [.c (C.int .i64 xg), .c (C.row 25 xh), .c (C.row 66 xi)])] De_d
noncomputable def B0_b (L : Lv) (k : Nat) (xb xa xc : LL) (xd xe xf : Int) (xj xk : LL) (xv : Int) (xw xs : BA) (xr : LL) (xt : BA) (xu : LL) (xg xh : BA) : Option (BA × Bool) := As Ab Try.prog (orK L) kp k 73 [.rop 112 [C.row 25 xb, C.row 39 xa, C.row 3 xc, C.int .i64 xd, C.int .i64 xe, C.int .i64 xf, C.row 83 xj, C.row 66 xk, C.int .i64 xv, C.str xw, C.str xs, C.row 86 xr, C.str xt, C.row 5 xu] 0, .v (.agg [.c (C.str xg), .c (C.str xh)])] B0_d
noncomputable def B0_l0 (L : Lv) (k : Nat) (xb xa xc : LL) (xd xe xf : Int) (xj xk : LL) (xv : Int) (xw xs : BA) (xr : LL) (xt : BA) (xu : LL) (xg xh : BA) (m0 : Nat) (v3 : Int) : Option (BA × Bool) := Ak Ab Try.prog (orK L) kp k 73 [.rop 112 [C.row 25 xb, C.row 39 xa, C.row 3 xc, C.int .i64 xd, C.int .i64 xe, C.int .i64 xf, C.row 83 xj, C.row 66 xk, C.int .i64 xv, C.str xw, C.str xs, C.row 86 xr, C.str xt, C.row 5 xu] 0, .v (.agg [.c (C.str xg), .c (C.str xh)])] [1, 0, 1, 0] [m0] ⟨[(0, .one (.rop 112 [C.row 25 xb, C.row 39 xa, C.row 3 xc, C.int .i64 xd, C.int .i64 xe, C.int .i64 xf, C.row 83 xj, C.row 66 xk, C.int .i64 xv, C.str xw, C.str xs, C.row 86 xr, C.str xt, C.row 5 xu] 0)), (3, .one (.ptr 128 0)), (12, .one (.c (C.row 86 xr))), (13, .one (.c (C.int .i64 (xr.length : Int)))), (14, .one (.c (C.int .i64 v3)))], [(128, .box 27 [.c (C.str xg), .c (C.str xh)])], 130, 31⟩ B0_d
noncomputable def Dd_b (L : Lv) (k : Nat) (xb xa xc : LL) (xd xe xf : Int) (xj xk : LL) (xg : Int) (xh xi : LL) : Option Int := As Ab Try.prog (orK L) kp k 92 [.v (.agg [.c (C.row 25 xb), .c (C.row 39 xa), .c (C.row 3 xc), .c (C.int .i64 xd), .c (C.int .i64 xe), .c (C.int .i64 xf), .c (C.row 83 xj), .c (C.row 66 xk)]), .v (.agg [.c (C.int .i64 xg), .c (C.row 25 xh), .c (C.row 66 xi)])] Dd_d
noncomputable def B9_b (L : Lv) (k : Nat) (x0 : LL) (xg : Int) (xh xi : LL) : Option Int := As Ab Try.prog (orK L) kp k 91 [.v (.one (.c (C.row 25 x0))), .fnr 101 false 25 [C.int .i64 xg, C.row 25 xh, C.row 66 xi] 0] B9_d
noncomputable def B9_l0 (L : Lv) (k : Nat) (x0 : LL) (xg : Int) (xh xi : LL) (m0 : Nat) (v3 : Int) : Option Int := Ak Ab Try.prog (orK L) kp k 91 [.v (.one (.c (C.row 25 x0))), .fnr 101 false 25 [C.int .i64 xg, C.row 25 xh, C.row 66 xi] 0] [1, 0, 1, 0] [m0] ⟨[(0, .one (.c (C.row 25 x0))), (1, .fnr 101 false 25 [C.int .i64 xg, C.row 25 xh, C.row 66 xi] 0), (7, .one (.c (C.int .i64 (x0.length : Int)))), (8, .one (.c (C.int .i64 v3)))], [], 129, 19⟩ B9_d
noncomputable def Dl_b (L : Lv) (k : Nat) (xb : Int) (xa xc : LL) (xg : Int) (xh xi : LL) : Option Bool := As Ab Try.prog (orK L) kp k 101 [.v (.agg [.c (C.int .i64 xb), .c (C.row 25 xa), .c (C.row 66 xc)]), .rop 25 [C.int .i64 xg, C.row 25 xh, C.row 66 xi] 0] Dl_d
noncomputable def Cx_b (L : Lv) (k : Nat) (xb : Int) (xa xc : LL) (xg : Int) (xh xi : LL) : Option Bool := As Ab Try.prog (orK L) kp k 102 [.v (.agg [.c (C.int .i64 xb), .c (C.row 25 xa), .c (C.row 66 xc)]), .v (.agg [.c (C.int .i64 xg), .c (C.row 25 xh), .c (C.row 66 xi)])] Cx_d
noncomputable def Bx_b (L : Lv) (k : Nat) (x0 x1 : LL) : Option Bool := As Ab Try.prog (orK L) kp k 108 [.v (.one (.c (C.row 25 x0))), .v (.one (.c (C.row 25 x1))), .fn 102] Bx_d
noncomputable def Bx_l0 (L : Lv) (k : Nat) (x0 x1 : LL) (m0 : Nat) (v3 : Int) : Option Bool := Ak Ab Try.prog (orK L) kp k 108 [.v (.one (.c (C.row 25 x0))), .v (.one (.c (C.row 25 x1))), .fn 102] [1, 1, 0, 1, 0] [m0] ⟨[(1, .one (.c (C.row 25 x1))), (2, .fn 102), (15, .one (.c (C.row 25 x0))), (16, .one (.c (C.int .i64 (x0.length : Int)))), (17, .one (.c (C.int .i64 v3)))], [], 193, 32⟩ Bx_d
noncomputable def Au_b (L : Lv) (k : Nat) (xb xa xc : LL) (xd xe xf : Int) (xj xk x1 : LL) : Option LL := As Ab Try.prog (orK L) kp k 16 [.v (.agg [.c (C.row 25 xb), .c (C.row 39 xa), .c (C.row 3 xc), .c (C.int .i64 xd), .c (C.int .i64 xe), .c (C.int .i64 xf), .c (C.row 83 xj), .c (C.row 66 xk)]), .v (.one (.c (C.row 30 x1)))] Au_d
noncomputable def Au_l0 (L : Lv) (k : Nat) (xb xa xc : LL) (xd xe xf : Int) (xj xk x1 : LL) (m0 : Nat) (v1 v2 : Int) (v11 v12 : LL) : Option LL := Ak Ab Try.prog (orK L) kp k 16 [.v (.agg [.c (C.row 25 xb), .c (C.row 39 xa), .c (C.row 3 xc), .c (C.int .i64 xd), .c (C.int .i64 xe), .c (C.int .i64 xf), .c (C.row 83 xj), .c (C.row 66 xk)]), .v (.one (.c (C.row 30 x1)))] [1, 1, 1, 1, 1, 0, 1, 0] [m0] ⟨[(1, .one (.c (C.row 30 x1))), (2, .one (.ptr 128 0)), (5, .one (.arr 129)), (6, .one (.c (C.int .i64 v1))), (7, .one (.arr 130)), (8, .one (.c (C.int .i64 v2)))], [(128, .box 41 [.c (C.row 25 xb), .c (C.row 39 xa), .c (C.row 3 xc), .c (C.int .i64 xd), .c (C.int .i64 xe), .c (C.int .i64 xf), .c (C.row 83 xj), .c (C.row 66 xk)]), (129, .arr 44 false v11), (130, .arr 44 false v12)], 132, 82⟩ Au_d
noncomputable def Au_l1 (L : Lv) (k : Nat) (xb xa xc : LL) (xd xe xf : Int) (xj xk x1 : LL) (m0 : Nat) (v1 : Int) (v3 : Nat) (v4 v5 : Int) (v14 v15 : LL) (v16 v17 : Bool) (v18 : BA) : Option LL := Ak Ab Try.prog (orK L) kp k 16 [.v (.agg [.c (C.row 25 xb), .c (C.row 39 xa), .c (C.row 3 xc), .c (C.int .i64 xd), .c (C.int .i64 xe), .c (C.int .i64 xf), .c (C.row 83 xj), .c (C.row 66 xk)]), .v (.one (.c (C.row 30 x1)))] [1, 1, 1, 1, 1, 0, 1, 0, 0, 1, 0, 0, 1, 1, 1, 1, 1, 0] [m0] ⟨[(1, .one (.c (C.row 30 x1))), (2, .one (.ptr 128 0)), (5, .one (.arr 129)), (6, .one (.c (C.int .i64 v1))), (7, .one (.sub 130 0 v3)), (8, .one (.c (C.int .i64 v4))), (9, .one (.c (C.int .i64 v5))), (10, .one (.ptr 131 0))], [(128, .box 41 [.c (C.row 25 xb), .c (C.row 39 xa), .c (C.row 3 xc), .c (C.int .i64 xd), .c (C.int .i64 xe), .c (C.int .i64 xf), .c (C.row 83 xj), .c (C.row 66 xk)]), (129, .arr 44 false v14), (130, .arr 44 false v15), (131, .box 44 [.c (C.bool v16), .c (C.bool v17), .c (C.str v18)])], 133, 82⟩ Au_d
noncomputable def Au_l2 (L : Lv) (k : Nat) (xb xa xc : LL) (xd xe xf : Int) (xj xk x1 : LL) (m0 : Nat) (v1 v2 v3 : Int) (v12 v13 : LL) : Option LL := Ak Ab Try.prog (orK L) kp k 16 [.v (.agg [.c (C.row 25 xb), .c (C.row 39 xa), .c (C.row 3 xc), .c (C.int .i64 xd), .c (C.int .i64 xe), .c (C.int .i64 xf), .c (C.row 83 xj), .c (C.row 66 xk)]), .v (.one (.c (C.row 30 x1)))] [1, 1, 1, 1, 1, 0, 1, 0, 0, 1, 0, 0, 1, 1, 1, 1, 1, 0] [m0] ⟨[(1, .one (.c (C.row 30 x1))), (2, .one (.ptr 128 0)), (5, .one (.arr 129)), (6, .one (.c (C.int .i64 v1))), (7, .one (.arr 130)), (8, .one (.c (C.int .i64 v2))), (9, .one (.c (C.int .i64 v3))), (10, .one (.ptr 131 0))], [(128, .box 41 [.c (C.row 25 xb), .c (C.row 39 xa), .c (C.row 3 xc), .c (C.int .i64 xd), .c (C.int .i64 xe), .c (C.int .i64 xf), .c (C.row 83 xj), .c (C.row 66 xk)]), (129, .arr 44 false v12), (130, .arr 44 false v13), (131, .box 44 [.c (C.bool false), .c (C.bool false), .c (C.str (⟨#[]⟩ : BA))])], 133, 82⟩ Au_d
noncomputable def Au_l3 (L : Lv) (k : Nat) (xb xa xc : LL) (xd xe xf : Int) (xj xk x1 : LL) (m0 : Nat) (v1 : Int) (v3 : Nat) (v4 : Int) (v13 v14 : LL) : Option LL := Ak Ab Try.prog (orK L) kp k 16 [.v (.agg [.c (C.row 25 xb), .c (C.row 39 xa), .c (C.row 3 xc), .c (C.int .i64 xd), .c (C.int .i64 xe), .c (C.int .i64 xf), .c (C.row 83 xj), .c (C.row 66 xk)]), .v (.one (.c (C.row 30 x1)))] [1, 1, 1, 1, 1, 0, 1, 0] [m0] ⟨[(1, .one (.c (C.row 30 x1))), (2, .one (.ptr 128 0)), (5, .one (.arr 129)), (6, .one (.c (C.int .i64 v1))), (7, .one (.sub 130 0 v3)), (8, .one (.c (C.int .i64 v4)))], [(128, .box 41 [.c (C.row 25 xb), .c (C.row 39 xa), .c (C.row 3 xc), .c (C.int .i64 xd), .c (C.int .i64 xe), .c (C.int .i64 xf), .c (C.row 83 xj), .c (C.row 66 xk)]), (129, .arr 44 false v13), (130, .arr 44 false v14)], 132, 82⟩ Au_d
noncomputable def C4_b (L : Lv) (k : Nat) (xb xa xc : LL) (xd xe xf : Int) (xj xk : LL) (xv : Int) (xw xs : BA) (xr : LL) (xt : BA) (xu yl : Bool) (ym : BA) (yn yo : Bool) (yp : BA) (yk : LL) (x1 xn xo xp yi : Int) (x3 : LL) : Option (Bool × LL × LL × LL × Int × Int × Int × LL × LL × Int × BA × BA × LL × BA × Bool × Bool × BA × Bool × Bool × BA × LL) := As Ab Try.prog (orK L) kp k 55 [.ref 79 [.d (C.row 25 xb), .d (C.row 39 xa), .d (C.row 3 xc), .d (C.int .i64 xd), .d (C.int .i64 xe), .d (C.int .i64 xf), .d (C.row 83 xj), .d (C.row 66 xk), .d (C.int .i64 xv), .d (C.str xw), .d (C.str xs), .d (C.row 86 xr), .d (C.str xt), .d (C.bool xu), .d (C.bool yl), .d (C.str ym), .d (C.bool yn), .d (C.bool yo), .d (C.str yp), .own 5 yk] 0, .v (.one (.c (C.int .i64 x1))), .v (.agg [.c (C.int .i64 xn), .c (C.int .i64 xo), .c (C.int .i64 xp), .c (C.int .i64 yi)]), .v (.one (.c (C.row 4 x3)))] C4_d
noncomputable def Bw_b (L : Lv) (k : Nat) (x0 x1 : LL) : Option Bool := As Ab Try.prog (orK L) kp k 109 [.v (.one (.c (C.row 66 x0))), .v (.one (.c (C.row 66 x1))), .fn 110] Bw_d
noncomputable def Bw_l0 (L : Lv) (k : Nat) (x0 x1 : LL) (m0 : Nat) (v3 : Int) : Option Bool := Ak Ab Try.prog (orK L) kp k 109 [.v (.one (.c (C.row 66 x0))), .v (.one (.c (C.row 66 x1))), .fn 110] [1, 1, 0, 1, 0] [m0] ⟨[(1, .one (.c (C.row 66 x1))), (2, .fn 110), (15, .one (.c (C.row 66 x0))), (16, .one (.c (C.int .i64 (x0.length : Int)))), (17, .one (.c (C.int .i64 v3)))], [], 193, 32⟩ Bw_d
noncomputable def Di_b (L : Lv) (k : Nat) (x0 : LL) : Option Bool := As Ab Try.prog (orK L) kp k 39 [.v (.one (.c (C.row 30 x0)))] Di_d
noncomputable def C3_b (L : Lv) (k : Nat) (xb xa : Bool) (xc : BA) (x1 : Int) : Option Bool := As Ab Try.prog (orK L) kp k 71 [.v (.agg [.c (C.bool xb), .c (C.bool xa), .c (C.str xc)]), .v (.one (.c (C.int .i64 x1)))] C3_d
noncomputable def Dc_b (L : Lv) (k : Nat) (xb : Int) (xa xc xd : BA) (xe xf : LL) (xg : Int) (xh xi xl : BA) (xm xq : LL) : Option Bool := As Ab Try.prog (orK L) kp k 110 [.v (.agg [.c (C.int .i64 xb), .c (C.str xa), .c (C.str xc), .c (C.str xd), .c (C.row 66 xe), .c (C.row 25 xf)]), .v (.agg [.c (C.int .i64 xg), .c (C.str xh), .c (C.str xi), .c (C.str xl), .c (C.row 66 xm), .c (C.row 25 xq)])] Dc_d
noncomputable def A5_b (L : Lv) (k : Nat) (x0 : LL) : Option Bool := As Ab Try.prog (orK L) kp k 56 [.v (.one (.c (C.row 30 x0)))] A5_d
noncomputable def A5_l0 (L : Lv) (k : Nat) (x0 : LL) (m0 : Nat) (v1 v4 : Int) : Option Bool := Ak Ab Try.prog (orK L) kp k 56 [.v (.one (.c (C.row 30 x0)))] [1, 1, 0, 1, 0] [m0] ⟨[(0, .one (.c (C.row 30 x0))), (3, .one (.c (C.int .i64 v1))), (6, .one (.c (C.row 30 x0))), (7, .one (.c (C.int .i64 (x0.length : Int)))), (8, .one (.c (C.int .i64 v4)))], [], 65, 60⟩ A5_d
noncomputable def A5_l1 (L : Lv) (k : Nat) (x0 : LL) (m0 : Nat) (v1 v4 v5 : Int) : Option Bool := Ak Ab Try.prog (orK L) kp k 56 [.v (.one (.c (C.row 30 x0)))] [1, 1, 0, 1, 0, 0, 1, 1, 0, 0, 1, 1, 0, 1, 0, 0] [m0] ⟨[(0, .one (.c (C.row 30 x0))), (3, .one (.c (C.int .i64 v1))), (6, .one (.c (C.row 30 x0))), (7, .one (.c (C.int .i64 (x0.length : Int)))), (8, .one (.c (C.int .i64 v4))), (48, .one (.c (C.int .i64 v5)))], [], 65, 60⟩ A5_d
noncomputable def Dh_b (L : Lv) (k : Nat) (xb : Int) (xa xc : BA) (xd : LL) (xe : BA) : Option Bool := As Ab Try.prog (orK L) kp k 72 [.v (.agg [.c (C.int .i64 xb), .c (C.str xa), .c (C.str xc), .c (C.row 86 xd), .c (C.str xe)])] Dh_d
noncomputable def C6_b (L : Lv) (k : Nat) (xb xa : BA) : Option Bool := As Ab Try.prog (orK L) kp k 87 [.v (.agg [.c (C.str xb), .c (C.str xa)])] C6_d
noncomputable def Cv_b (L : Lv) (k : Nat) (x0 : BA) : Option Bool := As Ab Try.prog (orK L) kp k 89 [.v (.one (.c (C.str x0)))] Cv_d
noncomputable def Br_b (L : Lv) (k : Nat) (x0 : BA) : Option Bool := As Ab Try.prog (orK L) kp k 97 [.v (.one (.c (C.str x0)))] Br_d
noncomputable def Br_l0 (L : Lv) (k : Nat) (x0 : BA) (m0 v2 : Nat) : Option Bool := Ak Ab Try.prog (orK L) kp k 97 [.v (.one (.c (C.str x0)))] [1, 0, 1, 0] [m0] ⟨[(0, .one (.c (C.str x0))), (6, .itr 64)], [(64, .iter x0 v2)], 66, 25⟩ Br_d
noncomputable def Bl_b (L : Lv) (k : Nat) (x0 : BA) : Option (LL × Int × Int) := As Ab Try.prog (orK L) kp k 98 [.v (.one (.c (C.str x0)))] Bl_d
noncomputable def Bl_l0 (L : Lv) (k : Nat) (x0 : BA) (m0 : Nat) : Option (LL × Int × Int) := Ak Ab Try.prog (orK L) kp k 98 [.v (.one (.c (C.str x0)))] [1, 1, 1, 0, 0] [m0] ⟨[(0, .one (.c (C.str x0))), (5, .one (.c (C.nil 21))), (6, .one (.c (C.int .i64 0)))], [], 65, 35⟩ Bl_d
noncomputable def Bl_l1 (L : Lv) (k : Nat) (x0 : BA) (m0 : Nat) (v1 : Int) (v2 : LL) : Option (LL × Int × Int) := Ak Ab Try.prog (orK L) kp k 98 [.v (.one (.c (C.str x0)))] [1, 1, 1, 0, 0] [m0] ⟨[(0, .one (.c (C.str x0))), (5, .one (.arr 64)), (6, .one (.c (C.int .i64 v1)))], [(64, .arr 21 false v2)], 66, 35⟩ Bl_d
noncomputable def C1_b (L : Lv) (k : Nat) (x0 : Int) : Option Bool := As Ab Try.prog (orK L) kp k 103 [.v (.one (.c (C.int .i32 x0)))] C1_d
noncomputable def Ao_b (L : Lv) (k : Nat) (x0 : BA) (x1 : Int) : Option (Int × Int × Int) := As Ab Try.prog (orK L) kp k 105 [.v (.one (.c (C.str x0))), .v (.one (.c (C.int .i64 x1)))] Ao_d
noncomputable def Ao_l0 (L : Lv) (k : Nat) (x0 : BA) (x1 : Int) (m0 : Nat) (v2 v3 v4 v5 v6 v7 v8 v9 v10 v11 v12 v13 v14 : Int) : Option (Int × Int × Int) := Ak Ab Try.prog (orK L) kp k 105 [.v (.one (.c (C.str x0))), .v (.one (.c (C.int .i64 x1)))] [1, 1, 0, 1, 0] [m0] ⟨[(0, .one (.c (C.str x0))), (1, .one (.c (C.int .i64 x1))), (21, .agg [.c (C.int .u8 v2), .c (C.int .u8 v3), .c (C.int .i32 v4), .c (C.int .u8 v5), .c (C.int .u8 v6), .c (C.int .i32 v7), .c (C.int .u8 v8), .c (C.int .u8 v9), .c (C.int .i32 v10), .c (C.int .u8 v11), .c (C.int .u8 v12), .c (C.int .i32 v13)]), (22, .one (.c (C.int .i64 v14)))], [], 129, 115⟩ Ao_d
noncomputable def Ao_l1 (L : Lv) (k : Nat) (x0 : BA) (x1 : Int) (m0 : Nat) (v2 v3 v4 v5 v6 v7 v8 v9 v10 v11 v12 v13 v14 v15 v16 v17 v18 : Int) : Option (Int × Int × Int) := Ak Ab Try.prog (orK L) kp k 105 [.v (.one (.c (C.str x0))), .v (.one (.c (C.int .i64 x1)))] [1, 1, 0, 1, 0, 0, 1, 1, 0, 0, 1, 0, 0] [m0] ⟨[(0, .one (.c (C.str x0))), (1, .one (.c (C.int .i64 x1))), (7, .one (.c (C.int .i64 v2))), (8, .one (.ptr 128 0)), (21, .agg [.c (C.int .u8 v3), .c (C.int .u8 v4), .c (C.int .i32 v5), .c (C.int .u8 v6), .c (C.int .u8 v7), .c (C.int .i32 v8), .c (C.int .u8 v9), .c (C.int .u8 v10), .c (C.int .i32 v11), .c (C.int .u8 v12), .c (C.int .u8 v13), .c (C.int .i32 v14)]), (22, .one (.c (C.int .i64 v15)))], [(128, .box 158 [.c (C.int .u8 v16), .c (C.int .u8 v17), .c (C.int .i32 v18)])], 130, 115⟩ Ao_d
noncomputable def Ao_l2 (L : Lv) (k : Nat) (x0 : BA) (x1 : Int) (m0 m1 : Nat) (v2 v3 v4 v5 v6 v7 : Int) : Option (Int × Int × Int) := Ak Ab Try.prog (orK L) kp k 105 [.v (.one (.c (C.str x0))), .v (.one (.c (C.int .i64 x1)))] [1, 1, 0, 1, 0, 0, 1, 1, 0, 0, 1, 1, 1, 1, 0, 0] [m0, m1] ⟨[(0, .one (.c (C.str x0))), (1, .one (.c (C.int .i64 x1))), (7, .one (.c (C.int .i64 v2))), (8, .one (.ptr 128 0)), (9, .one (.c (C.int .i32 v3))), (10, .one (.c (C.int .i64 v4)))], [(128, .box 158 [.c (C.int .u8 v5), .c (C.int .u8 v6), .c (C.int .i32 v7)])], 130, 115⟩ Ao_d
noncomputable def Ao_l3 (L : Lv) (k : Nat) (x0 : BA) (x1 : Int) (m0 : Nat) (v2 v3 v4 v5 v6 v7 : Int) : Option (Int × Int × Int) := Ak Ab Try.prog (orK L) kp k 105 [.v (.one (.c (C.str x0))), .v (.one (.c (C.int .i64 x1)))] [1, 1, 0, 1, 0, 0, 1, 1, 0, 0, 1, 1, 1, 1, 1, 0] [m0] ⟨[(0, .one (.c (C.str x0))), (1, .one (.c (C.int .i64 x1))), (7, .one (.c (C.int .i64 v2))), (8, .one (.ptr 128 0)), (9, .one (.c (C.int .i32 v3))), (10, .one (.c (C.int .i64 v4)))], [(128, .box 158 [.c (C.int .u8 v5), .c (C.int .u8 v6), .c (C.int .i32 v7)])], 130, 115⟩ Ao_d
noncomputable def Bq_b (L : Lv) (k : Nat) (x0 : Int) (x1 : LL) : Option Bool := As Ab Try.prog (orK L) kp k 107 [.v (.one (.c (C.int .i32 x0))), .v (.one (.c (C.row 153 x1)))] Bq_d
noncomputable def Bq_l0 (L : Lv) (k : Nat) (x0 : Int) (x1 : LL) (m0 : Nat) (v3 : Int) : Option Bool := Ak Ab Try.prog (orK L) kp k 107 [.v (.one (.c (C.int .i32 x0))), .v (.one (.c (C.row 153 x1)))] [1, 0, 1, 0] [m0] ⟨[(0, .one (.c (C.int .i32 x0))), (7, .one (.c (C.row 153 x1))), (8, .one (.c (C.int .i64 (x1.length : Int)))), (9, .one (.c (C.int .i64 v3)))], [], 129, 24⟩ Bq_d
noncomputable def Df_b (L : Lv) (k : Nat) : Option (Int × Int × Int × Int × Int × Int × Int × Int × Int × Int × Int × Int) := As Ab Try.prog (orK L) kp k 111 [] Df_d
noncomputable def Bh_b (L : Lv) (k : Nat) (x0 : LL) : Option LL := As Ab Try.prog (orK L) kp k 40 [.v (.one (.c (C.row 30 x0)))] Bh_d
noncomputable def Bh_l0 (L : Lv) (k : Nat) (x0 : LL) (m0 : Nat) (v2 : Int) : Option LL := Ak Ab Try.prog (orK L) kp k 40 [.v (.one (.c (C.row 30 x0)))] [1, 1, 1, 0, 1, 0] [m0] ⟨[(3, .one (.c (C.nil 3))), (9, .one (.c (C.row 30 x0))), (10, .one (.c (C.int .i64 (x0.length : Int)))), (11, .one (.c (C.int .i64 v2)))], [], 65, 25⟩ Bh_d
noncomputable def Bh_l1 (L : Lv) (k : Nat) (x0 : LL) (m0 : Nat) (v2 : Int) (v3 : LL) : Option LL := Ak Ab Try.prog (orK L) kp k 40 [.v (.one (.c (C.row 30 x0)))] [1, 1, 1, 0, 1, 0] [m0] ⟨[(3, .one (.arr 64)), (9, .one (.c (C.row 30 x0))), (10, .one (.c (C.int .i64 (x0.length : Int)))), (11, .one (.c (C.int .i64 v2)))], [(64, .arr 3 false v3)], 66, 25⟩ Bh_d
noncomputable def Bv_b (L : Lv) (k : Nat) (x0 : LL) : Option Int := As Ab Try.prog (orK L) kp k 57 [.v (.one (.c (C.row 30 x0)))] Bv_d
noncomputable def Bv_l0 (L : Lv) (k : Nat) (x0 : LL) (m0 : Nat) (v0 v3 : Int) : Option Int := Ak Ab Try.prog (orK L) kp k 57 [.v (.one (.c (C.row 30 x0)))] [1, 1, 1, 0, 1, 0] [m0] ⟨[(3, .one (.c (C.int .i64 v0))), (9, .one (.c (C.row 30 x0))), (10, .one (.c (C.int .i64 (x0.length : Int)))), (11, .one (.c (C.int .i64 v3)))], [], 65, 27⟩ Bv_d
noncomputable def Bd_b (L : Lv) (k : Nat) (x0 : BA) : Option Bool := As Ab Try.prog (orK L) kp k 99 [.v (.one (.c (C.str x0))), .v (.one (.c (C.row 147 [[C.fn (some 100)]])))] Bd_d
noncomputable def Bd_l0 (L : Lv) (k : Nat) (x0 : BA) (m0 v1 : Nat) : Option Bool := Ak Ab Try.prog (orK L) kp k 99 [.v (.one (.c (C.str x0))), .v (.one (.c (C.row 147 [[C.fn (some 100)]])))] [1, 0, 1, 0] [m0] ⟨[(1, .one (.c (C.row 147 [[C.fn (some 100)]]))), (11, .itr 128)], [(128, .iter x0 v1)], 130, 30⟩ Bd_d
noncomputable def Bd_l1 (L : Lv) (k : Nat) (x0 : BA) (m0 m1 : Nat) (v0 : Int) (v1 : Bool) (v3 : Int) (v5 : Nat) : Option Bool := Ak Ab Try.prog (orK L) kp k 99 [.v (.one (.c (C.str x0))), .v (.one (.c (C.row 147 [[C.fn (some 100)]])))] [1, 0, 1, 0, 0, 1, 1, 0, 1, 1, 0, 1, 0] [m0, m1] ⟨[(1, .one (.c (C.row 147 [[C.fn (some 100)]]))), (6, .one (.c (C.int .i32 v0))), (7, .one (.c (C.bool v1))), (11, .itr 128), (15, .one (.c (C.row 147 [[C.fn (some 100)]]))), (16, .one (.c (C.int .i64 1))), (17, .one (.c (C.int .i64 v3)))], [(128, .iter x0 v5)], 130, 30⟩ Bd_d
noncomputable def Dg_b (L : Lv) (k : Nat) (x0 x1 : Int) : Option (Int × Int) := As Ab Try.prog (orK L) kp k 112 [.v (.one (.c (C.int .i32 x0))), .v (.one (.c (C.int .i64 x1)))] Dg_d
noncomputable def C8_b (L : Lv) (k : Nat) (x0 : Int) : Option Bool := As Ab Try.prog (orK L) kp k 100 [.v (.one (.c (C.int .i32 x0)))] C8_d
noncomputable def C7_b (L : Lv) (k : Nat) (x0 : Int) : Option Bool := As Ab Try.prog (orK L) kp k 106 [.v (.one (.c (C.int .i32 x0)))] C7_d
noncomputable def Cw_b (L : Lv) (k : Nat) (xb xa xc : LL) (xd xe xf : Int) (xj xk : LL) (xg xh xi : Int) (xl xm : LL) (xn : Int) (xo xp : BA) (yi : LL) (yj : BA) (xx xy : Bool) (xz : BA) (x4 : LL) : Option LL := As Ab Try.prog (orK L) kp k 20 [.v (.agg [.c (C.row 25 xb), .c (C.row 39 xa), .c (C.row 3 xc), .c (C.int .i64 xd), .c (C.int .i64 xe), .c (C.int .i64 xf), .c (C.row 83 xj), .c (C.row 66 xk)]), .v (.agg [.c (C.int .i64 xg), .c (C.int .i64 xh), .c (C.int .i64 xi), .c (C.row 83 xl), .c (C.row 66 xm)]), .v (.agg [.c (C.int .i64 xn), .c (C.str xo), .c (C.str xp), .c (C.row 86 yi), .c (C.str yj)]), .v (.agg [.c (C.bool xx), .c (C.bool xy), .c (C.str xz)]), .v (.one (.c (C.row 4 x4)))] Cw_d
noncomputable def Cw_l0 (L : Lv) (k : Nat) (xb xa xc : LL) (xd xe xf : Int) (xj xk : LL) (xg xh xi : Int) (xl xm : LL) (xn : Int) (xo xp : BA) (yi : LL) (yj : BA) (xx xy : Bool) (xz : BA) (x4 : LL) (m0 : Nat) (v0 : Bool) (v6 v7 : LL) : Option LL := Ak Ab Try.prog (orK L) kp k 20 [.v (.agg [.c (C.row 25 xb), .c (C.row 39 xa), .c (C.row 3 xc), .c (C.int .i64 xd), .c (C.int .i64 xe), .c (C.int .i64 xf), .c (C.row 83 xj), .c (C.row 66 xk)]), .v (.agg [.c (C.int .i64 xg), .c (C.int .i64 xh), .c (C.int .i64 xi), .c (C.row 83 xl), .c (C.row 66 xm)]), .v (.agg [.c (C.int .i64 xn), .c (C.str xo), .c (C.str xp), .c (C.row 86 yi), .c (C.str yj)]), .v (.agg [.c (C.bool xx), .c (C.bool xy), .c (C.str xz)]), .v (.one (.c (C.row 4 x4)))] [1, 1, 1, 0, 1, 0] [m0] ⟨[(6, .one (.ptr 320 0)), (11, .one (.arr 321)), (12, .one (.arr 322)), (13, .one (.c (C.bool v0)))], [(320, .box 39 [.c (C.int .i64 xg), .c (C.int .i64 xh), .c (C.int .i64 xi), .c (C.row 83 xl), .c (C.row 66 xm)]), (321, .arr 4 false v6), (322, .arr 4 false v7)], 324, 72⟩ Cw_d
noncomputable def Cw_l1 (L : Lv) (k : Nat) (xb xa xc : LL) (xd xe xf : Int) (xj xk : LL) (xg xh xi : Int) (xl xm : LL) (xn : Int) (xo xp : BA) (yi : LL) (yj : BA) (xx xy : Bool) (xz : BA) (x4 : LL) (m0 m1 : Nat) (v0 : Bool) (v3 : Int) (v9 v10 : LL) : Option LL := Ak Ab Try.prog (orK L) kp k 20 [.v (.agg [.c (C.row 25 xb), .c (C.row 39 xa), .c (C.row 3 xc), .c (C.int .i64 xd), .c (C.int .i64 xe), .c (C.int .i64 xf), .c (C.row 83 xj), .c (C.row 66 xk)]), .v (.agg [.c (C.int .i64 xg), .c (C.int .i64 xh), .c (C.int .i64 xi), .c (C.row 83 xl), .c (C.row 66 xm)]), .v (.agg [.c (C.int .i64 xn), .c (C.str xo), .c (C.str xp), .c (C.row 86 yi), .c (C.str yj)]), .v (.agg [.c (C.bool xx), .c (C.bool xy), .c (C.str xz)]), .v (.one (.c (C.row 4 x4)))] [1, 1, 1, 0, 1, 0, 0, 1, 0, 1, 1, 0] [m0, m1] ⟨[(6, .one (.ptr 320 0)), (11, .one (.arr 321)), (12, .one (.arr 322)), (13, .one (.c (C.bool v0))), (29, .one (.c (C.row 83 xl))), (30, .one (.c (C.int .i64 (xl.length : Int)))), (31, .one (.c (C.int .i64 v3)))], [(320, .box 39 [.c (C.int .i64 xg), .c (C.int .i64 xh), .c (C.int .i64 xi), .c (C.row 83 xl), .c (C.row 66 xm)]), (321, .arr 4 false v9), (322, .arr 4 false v10)], 324, 72⟩ Cw_d
noncomputable def Cw_l2 (L : Lv) (k : Nat) (xb xa xc : LL) (xd xe xf : Int) (xj xk : LL) (xg xh xi : Int) (xl xm : LL) (xn : Int) (xo xp : BA) (yi : LL) (yj : BA) (xx xy : Bool) (xz : BA) (x4 : LL) (m0 m1 : Nat) (v0 v1 : Bool) (v4 : Int) (v10 v11 : LL) (v12 v13 v14 v15 : Int) : Option LL := Ak Ab Try.prog (orK L) kp k 20 [.v (.agg [.c (C.row 25 xb), .c (C.row 39 xa), .c (C.row 3 xc), .c (C.int .i64 xd), .c (C.int .i64 xe), .c (C.int .i64 xf), .c (C.row 83 xj), .c (C.row 66 xk)]), .v (.agg [.c (C.int .i64 xg), .c (C.int .i64 xh), .c (C.int .i64 xi), .c (C.row 83 xl), .c (C.row 66 xm)]), .v (.agg [.c (C.int .i64 xn), .c (C.str xo), .c (C.str xp), .c (C.row 86 yi), .c (C.str yj)]), .v (.agg [.c (C.bool xx), .c (C.bool xy), .c (C.str xz)]), .v (.one (.c (C.row 4 x4)))] [1, 1, 1, 0, 1, 0, 0, 1, 0, 1, 1, 0, 0, 1, 1, 0, 0, 1, 1, 0] [m0, m1] ⟨[(6, .one (.ptr 320 0)), (11, .one (.arr 321)), (12, .one (.arr 322)), (13, .one (.c (C.bool v0))), (15, .one (.ptr 323 0)), (16, .one (.c (C.bool v1))), (29, .one (.c (C.row 83 xl))), (30, .one (.c (C.int .i64 (xl.length : Int)))), (31, .one (.c (C.int .i64 v4)))], [(320, .box 39 [.c (C.int .i64 xg), .c (C.int .i64 xh), .c (C.int .i64 xi), .c (C.row 83 xl), .c (C.row 66 xm)]), (321, .arr 4 false v10), (322, .arr 4 false v11), (323, .box 83 [.c (C.int .i64 v12), .c (C.int .i64 v13), .c (C.int .i64 v14), .c (C.int .i64 v15)])], 325, 72⟩ Cw_d
noncomputable def B5_b (L : Lv) (k : Nat) (x0 : LL) : Option Bool := As Ab Try.prog (orK L) kp k 88 [.v (.one (.c (C.row 86 x0)))] B5_d
noncomputable def B5_l0 (L : Lv) (k : Nat) (x0 : LL) (m0 : Nat) (v3 : Int) (v4 : LL) : Option Bool := Ak Ab Try.prog (orK L) kp k 88 [.v (.one (.c (C.row 86 x0)))] [1, 1, 0, 1, 0] [m0] ⟨[(0, .one (.c (C.row 86 x0))), (3, .itr 64), (7, .one (.c (C.row 86 x0))), (8, .one (.c (C.int .i64 (x0.length : Int)))), (9, .one (.c (C.int .i64 v3)))], [(64, .mp 27 4 v4)], 66, 36⟩ B5_d
noncomputable def C0_b (L : Lv) (k : Nat) (x0 : Int) : Option Bool := As Ab Try.prog (orK L) kp k 104 [.v (.one (.c (C.int .i32 x0)))] C0_d
noncomputable def Da_b (L : Lv) (k : Nat) (xb : Int) (xa xc : LL) : Option Bool := As Ab Try.prog (orK L) kp k 9 [.v (.agg [.c (C.int .i64 xb), .c (C.row 25 xa), .c (C.row 66 xc)])] Da_d
noncomputable def Dk_b (L : Lv) (k : Nat) (xb : Int) (xa xc : LL) : Option Int := As Ab Try.prog (orK L) kp k 28 [.v (.agg [.c (C.int .i64 xb), .c (C.row 25 xa), .c (C.row 66 xc)])] Dk_d
noncomputable def Bb_b (L : Lv) (k : Nat) (xb : Int) (xa xc : LL) (x1 : Int) : Option Int := As Ab Try.prog (orK L) kp k 48 [.v (.agg [.c (C.int .i64 xb), .c (C.row 25 xa), .c (C.row 66 xc)]), .v (.one (.c (C.int .i64 x1)))] Bb_d
noncomputable def Bb_l0 (L : Lv) (k : Nat) (xb : Int) (xa xc : LL) (x1 : Int) (m0 : Nat) (v1 v2 : Int) : Option Int := Ak Ab Try.prog (orK L) kp k 48 [.v (.agg [.c (C.int .i64 xb), .c (C.row 25 xa), .c (C.row 66 xc)]), .v (.one (.c (C.int .i64 x1)))] [1, 1, 0, 1, 0] [m0] ⟨[(1, .one (.c (C.int .i64 x1))), (2, .one (.ptr 128 0)), (5, .one (.c (C.int .i64 v1))), (6, .one (.c (C.int .i64 v2)))], [(128, .box 25 [.c (C.int .i64 xb), .c (C.row 25 xa), .c (C.row 66 xc)])], 130, 55⟩ Bb_d
noncomputable def Bb_l1 (L : Lv) (k : Nat) (xb : Int) (xa xc : LL) (x1 : Int) (m0 : Nat) (v1 v2 : Int) : Option Int := Ak Ab Try.prog (orK L) kp k 48 [.v (.agg [.c (C.int .i64 xb), .c (C.row 25 xa), .c (C.row 66 xc)]), .v (.one (.c (C.int .i64 x1)))] [1, 1, 1, 0, 1, 0] [m0] ⟨[(1, .one (.c (C.int .i64 x1))), (2, .one (.ptr 128 0)), (5, .one (.c (C.int .i64 v1))), (7, .one (.c (C.int .i64 v2)))], [(128, .box 25 [.c (C.int .i64 xb), .c (C.row 25 xa), .c (C.row 66 xc)])], 130, 55⟩ Bb_d
noncomputable def Bg_b (L : Lv) (k : Nat) (xb : Int) (xa xc xd : BA) (xe xf : LL) (x1 : Int) : Option Int := As Ab Try.prog (orK L) kp k 64 [.v (.agg [.c (C.int .i64 xb), .c (C.str xa), .c (C.str xc), .c (C.str xd), .c (C.row 66 xe), .c (C.row 25 xf)]), .v (.one (.c (C.int .i64 x1)))] Bg_d
noncomputable def Bg_l0 (L : Lv) (k : Nat) (xb : Int) (xa xc xd : BA) (xe xf : LL) (x1 : Int) (m0 : Nat) (v1 v2 : Int) : Option Int := Ak Ab Try.prog (orK L) kp k 64 [.v (.agg [.c (C.int .i64 xb), .c (C.str xa), .c (C.str xc), .c (C.str xd), .c (C.row 66 xe), .c (C.row 25 xf)]), .v (.one (.c (C.int .i64 x1)))] [1, 1, 0, 1, 0] [m0] ⟨[(1, .one (.c (C.int .i64 x1))), (2, .one (.ptr 128 0)), (5, .one (.c (C.int .i64 v1))), (6, .one (.c (C.int .i64 v2)))], [(128, .box 66 [.c (C.int .i64 xb), .c (C.str xa), .c (C.str xc), .c (C.str xd), .c (C.row 66 xe), .c (C.row 25 xf)])], 130, 55⟩ Bg_d
noncomputable def Bg_l1 (L : Lv) (k : Nat) (xb : Int) (xa xc xd : BA) (xe xf : LL) (x1 : Int) (m0 : Nat) (v1 v2 : Int) : Option Int := Ak Ab Try.prog (orK L) kp k 64 [.v (.agg [.c (C.int .i64 xb), .c (C.str xa), .c (C.str xc), .c (C.str xd), .c (C.row 66 xe), .c (C.row 25 xf)]), .v (.one (.c (C.int .i64 x1)))] [1, 1, 1, 0, 1, 0] [m0] ⟨[(1, .one (.c (C.int .i64 x1))), (2, .one (.ptr 128 0)), (5, .one (.c (C.int .i64 v1))), (7, .one (.c (C.int .i64 v2)))], [(128, .box 66 [.c (C.int .i64 xb), .c (C.str xa), .c (C.str xc), .c (C.str xd), .c (C.row 66 xe), .c (C.row 25 xf)])], 130, 55⟩ Bg_d
noncomputable def A8_b (L : Lv) (k : Nat) (xb : Int) (xa xc : LL) (x1 : Int) : Option Bool := As Ab Try.prog (orK L) kp k 29 [.v (.agg [.c (C.int .i64 xb), .c (C.row 25 xa), .c (C.row 66 xc)]), .v (.one (.c (C.int .i64 x1)))] A8_d
noncomputable def A8_l0 (L : Lv) (k : Nat) (xb : Int) (xa xc : LL) (x1 v1 v2 : Int) : Option Bool := Ak Ab Try.prog (orK L) kp k 29 [.v (.agg [.c (C.int .i64 xb), .c (C.row 25 xa), .c (C.row 66 xc)]), .v (.one (.c (C.int .i64 x1)))] [1, 1, 1, 1, 1, 1, 0, 0] [] ⟨[(1, .one (.c (C.int .i64 x1))), (2, .one (.ptr 128 0)), (5, .one (.c (C.int .i64 v1))), (6, .one (.c (C.int .i64 v2)))], [(128, .box 25 [.c (C.int .i64 xb), .c (C.row 25 xa), .c (C.row 66 xc)])], 130, 88⟩ A8_d
noncomputable def A8_l1 (L : Lv) (k : Nat) (xb : Int) (xa xc : LL) (x1 : Int) (m0 : Nat) (v1 : Int) : Option Bool := Ak Ab Try.prog (orK L) kp k 29 [.v (.agg [.c (C.int .i64 xb), .c (C.row 25 xa), .c (C.row 66 xc)]), .v (.one (.c (C.int .i64 x1)))] [1, 1, 1, 1, 1, 1, 1, 0, 1, 0] [m0] ⟨[(1, .one (.c (C.int .i64 x1))), (2, .one (.ptr 128 0)), (7, .one (.c (C.int .i64 v1)))], [(128, .box 25 [.c (C.int .i64 xb), .c (C.row 25 xa), .c (C.row 66 xc)])], 130, 88⟩ A8_d
noncomputable def Aj_b (L : Lv) (k : Nat) (xb : Int) (xa xc xd : BA) (xe xf : LL) (x1 : Int) : Option Bool := As Ab Try.prog (orK L) kp k 49 [.v (.agg [.c (C.int .i64 xb), .c (C.str xa), .c (C.str xc), .c (C.str xd), .c (C.row 66 xe), .c (C.row 25 xf)]), .v (.one (.c (C.int .i64 x1)))] Aj_d
noncomputable def Aj_l0 (L : Lv) (k : Nat) (xb : Int) (xa xc xd : BA) (xe xf : LL) (x1 : Int) (v1 v2 : Bool) : Option Bool := Ak Ab Try.prog (orK L) kp k 49 [.v (.agg [.c (C.int .i64 xb), .c (C.str xa), .c (C.str xc), .c (C.str xd), .c (C.row 66 xe), .c (C.row 25 xf)]), .v (.one (.c (C.int .i64 x1)))] [1, 1, 1, 1, 0, 0] [] ⟨[(1, .one (.c (C.int .i64 x1))), (2, .one (.ptr 128 0)), (5, .one (.c (C.bool v1))), (6, .one (.c (C.bool v2)))], [(128, .box 66 [.c (C.int .i64 xb), .c (C.str xa), .c (C.str xc), .c (C.str xd), .c (C.row 66 xe), .c (C.row 25 xf)])], 130, 144⟩ Aj_d
noncomputable def Aj_l1 (L : Lv) (k : Nat) (xb : Int) (xa xc xd : BA) (xe xf : LL) (x1 : Int) (v1 : Bool) : Option Bool := Ak Ab Try.prog (orK L) kp k 49 [.v (.agg [.c (C.int .i64 xb), .c (C.str xa), .c (C.str xc), .c (C.str xd), .c (C.row 66 xe), .c (C.row 25 xf)]), .v (.one (.c (C.int .i64 x1)))] [1, 1, 1, 1, 1, 0, 0] [] ⟨[(1, .one (.c (C.int .i64 x1))), (2, .one (.ptr 128 0)), (6, .one (.c (C.bool v1)))], [(128, .box 66 [.c (C.int .i64 xb), .c (C.str xa), .c (C.str xc), .c (C.str xd), .c (C.row 66 xe), .c (C.row 25 xf)])], 130, 144⟩ Aj_d
noncomputable def Aj_l2 (L : Lv) (k : Nat) (xb : Int) (xa xc xd : BA) (xe xf : LL) (x1 v1 v2 : Int) : Option Bool := Ak Ab Try.prog (orK L) kp k 49 [.v (.agg [.c (C.int .i64 xb), .c (C.str xa), .c (C.str xc), .c (C.str xd), .c (C.row 66 xe), .c (C.row 25 xf)]), .v (.one (.c (C.int .i64 x1)))] [1, 1, 1, 1, 1, 1, 1, 1, 1, 0, 0] [] ⟨[(1, .one (.c (C.int .i64 x1))), (2, .one (.ptr 128 0)), (7, .one (.c (C.int .i64 v1))), (8, .one (.c (C.int .i64 v2)))], [(128, .box 66 [.c (C.int .i64 xb), .c (C.str xa), .c (C.str xc), .c (C.str xd), .c (C.row 66 xe), .c (C.row 25 xf)])], 130, 144⟩ Aj_d
noncomputable def Aj_l3 (L : Lv) (k : Nat) (xb : Int) (xa xc xd : BA) (xe xf : LL) (x1 v1 v2 : Int) : Option Bool := Ak Ab Try.prog (orK L) kp k 49 [.v (.agg [.c (C.int .i64 xb), .c (C.str xa), .c (C.str xc), .c (C.str xd), .c (C.row 66 xe), .c (C.row 25 xf)]), .v (.one (.c (C.int .i64 x1)))] [1, 1, 1, 1, 1, 1, 1, 1, 1, 1, 0, 0] [] ⟨[(1, .one (.c (C.int .i64 x1))), (2, .one (.ptr 128 0)), (7, .one (.c (C.int .i64 v1))), (8, .one (.c (C.int .i64 v2)))], [(128, .box 66 [.c (C.int .i64 xb), .c (C.str xa), .c (C.str xc), .c (C.str xd), .c (C.row 66 xe), .c (C.row 25 xf)])], 130, 144⟩ Aj_d
noncomputable def Aj_l4 (L : Lv) (k : Nat) (xb : Int) (xa xc xd : BA) (xe xf : LL) (x1 : Int) (m0 : Nat) (v1 : Int) : Option Bool := Ak Ab Try.prog (orK L) kp k 49 [.v (.agg [.c (C.int .i64 xb), .c (C.str xa), .c (C.str xc), .c (C.str xd), .c (C.row 66 xe), .c (C.row 25 xf)]), .v (.one (.c (C.int .i64 x1)))] [1, 1, 1, 1, 1, 1, 1, 1, 1, 1, 1, 0, 1, 0] [m0] ⟨[(1, .one (.c (C.int .i64 x1))), (2, .one (.ptr 128 0)), (9, .one (.c (C.int .i64 v1)))], [(128, .box 66 [.c (C.int .i64 xb), .c (C.str xa), .c (C.str xc), .c (C.str xd), .c (C.row 66 xe), .c (C.row 25 xf)])], 130, 144⟩ Aj_d
noncomputable def Db_b (L : Lv) (k : Nat) (xb xa : BA) : Option Bool := As Ab Try.prog (orK L) kp k 65 [.v (.agg [.c (C.str xb), .c (C.str xa)])] Db_d
noncomputable def A9_b (L : Lv) (k : Nat) (x0 : BA) : Option Bool := As Ab Try.prog (orK L) kp k 50 [.v (.one (.c (C.str x0)))] A9_d
noncomputable def A9_l0 (L : Lv) (k : Nat) (x0 : BA) (m0 : Nat) (v0 v1 : Int) (v2 : LL) : Option Bool := Ak Ab Try.prog (orK L) kp k 50 [.v (.one (.c (C.str x0)))] [1, 1, 0, 1, 0] [m0] ⟨[(3, .one (.arr 64)), (5, .one (.c (C.int .i64 v0))), (6, .one (.c (C.int .i64 v1)))], [(64, .arr 21 false v2)], 66, 28⟩ A9_d
noncomputable def Bm_b (L : Lv) (k : Nat) (x0 : BA) : Option Bool := As Ab Try.prog (orK L) kp k 68 [.v (.one (.c (C.str x0)))] Bm_d
noncomputable def Bm_l0 (L : Lv) (k : Nat) (x0 : BA) (m0 : Nat) (v1 : Int) : Option Bool := Ak Ab Try.prog (orK L) kp k 68 [.v (.one (.c (C.str x0)))] [1, 1, 1, 0, 1, 0] [m0] ⟨[(3, .one (.c (C.row 21 (En x0)))), (4, .one (.c (C.int .i64 v1)))], [], 65, 31⟩ Bm_d
noncomputable def A6_b (L : Lv) (k : Nat) (x0 : BA) : Option (LL × Int × Int) := As Ab Try.prog (orK L) kp k 66 [.v (.one (.c (C.str x0)))] A6_d
noncomputable def A6_l0 (L : Lv) (k : Nat) (x0 : BA) (m0 : Nat) : Option (LL × Int × Int) := Ak Ab Try.prog (orK L) kp k 66 [.v (.one (.c (C.str x0)))] [1, 1, 1, 0, 0] [m0] ⟨[(0, .one (.c (C.str x0))), (5, .one (.c (C.nil 21))), (6, .one (.c (C.int .i64 0)))], [], 65, 36⟩ A6_d
noncomputable def A6_l1 (L : Lv) (k : Nat) (x0 : BA) (m0 : Nat) (v1 : Int) (v2 : LL) : Option (LL × Int × Int) := Ak Ab Try.prog (orK L) kp k 66 [.v (.one (.c (C.str x0)))] [1, 1, 1, 0, 0] [m0] ⟨[(0, .one (.c (C.str x0))), (5, .one (.arr 64)), (6, .one (.c (C.int .i64 v1)))], [(64, .arr 21 false v2)], 66, 36⟩ A6_d
noncomputable def Cj_b (L : Lv) (k : Nat) (x0 : Int) : Option Bool := As Ab Try.prog (orK L) kp k 85 [.v (.one (.c (C.int .i64 x0)))] Cj_d
noncomputable def A7_b (L : Lv) (k : Nat) (x0 : BA) (x1 : Int) : Option (Int × Int × Int) := As Ab Try.prog (orK L) kp k 83 [.v (.one (.c (C.str x0))), .v (.one (.c (C.int .i64 x1)))] A7_d
noncomputable def A7_l0 (L : Lv) (k : Nat) (x0 : BA) (x1 : Int) (m0 : Nat) (v2 : Int) : Option (Int × Int × Int) := Ak Ab Try.prog (orK L) kp k 83 [.v (.one (.c (C.str x0))), .v (.one (.c (C.int .i64 x1)))] [1, 1, 0, 1, 0] [m0] ⟨[(0, .one (.c (C.str x0))), (1, .one (.c (C.int .i64 x1))), (7, .one (.c (C.int .i64 v2)))], [], 129, 57⟩ A7_d
noncomputable def Cb_b (L : Lv) (k : Nat) (x0 : Int) : Option LL := As Ab Try.prog (orK L) kp k 94 [.v (.one (.c (C.int .i64 x0)))] Cb_d
noncomputable def Ae_b (L : Lv) (k : Nat) (x0 : BA) (x1 : Int) : Option Bool := As Ab Try.prog (orK L) kp k 96 [.v (.one (.c (C.str x0))), .v (.one (.c (C.int .i64 x1)))] Ae_d
noncomputable def Ae_l0 (L : Lv) (k : Nat) (x0 : BA) (x1 : Int) (m0 : Nat) (v3 : Int) : Option Bool := Ak Ab Try.prog (orK L) kp k 96 [.v (.one (.c (C.str x0))), .v (.one (.c (C.int .i64 x1)))] [1, 1, 1, 0, 1, 0] [m0] ⟨[(0, .one (.c (C.str x0))), (1, .one (.c (C.int .i64 x1))), (5, .one (.c (C.int .i64 (IntKind.i64.wrap ((x0.size : Int) - x1))))), (6, .one (.c (C.int .i64 v3)))], [], 129, 156⟩ Ae_d
noncomputable def Ae_l1 (L : Lv) (k : Nat) (x0 : BA) (x1 : Int) (m0 m1 : Nat) (v3 : Int) (v5 v6 : BA) : Option Bool := Ak Ab Try.prog (orK L) kp k 96 [.v (.one (.c (C.str x0))), .v (.one (.c (C.int .i64 x1)))] [1, 1, 1, 0, 1, 0, 0, 1, 0, 0, 1, 1, 1, 0, 0] [m0, m1] ⟨[(0, .one (.c (C.str x0))), (1, .one (.c (C.int .i64 x1))), (5, .one (.c (C.int .i64 (IntKind.i64.wrap ((x0.size : Int) - x1))))), (6, .one (.c (C.int .i64 v3))), (7, .one (.c (C.str (x0.extract x1.toNat ((x0.size : Int).toNat))))), (8, .one (.c (C.str v5))), (9, .one (.c (C.str v6)))], [], 129, 156⟩ Ae_d
noncomputable def Ae_l2 (L : Lv) (k : Nat) (x0 : BA) (x1 : Int) (m0 m1 : Nat) (v3 v5 v6 : Int) (v7 : Bool) (v8 : Int) : Option Bool := Ak Ab Try.prog (orK L) kp k 96 [.v (.one (.c (C.str x0))), .v (.one (.c (C.int .i64 x1)))] [1, 1, 1, 0, 1, 0, 0, 1, 0, 0, 1, 1, 1, 1, 1, 1, 1, 0, 1, 0] [m0, m1] ⟨[(0, .one (.c (C.str x0))), (1, .one (.c (C.int .i64 x1))), (5, .one (.c (C.int .i64 (IntKind.i64.wrap ((x0.size : Int) - x1))))), (6, .one (.c (C.int .i64 v3))), (7, .one (.c (C.str (x0.extract x1.toNat ((x0.size : Int).toNat))))), (10, .one (.c (C.int .i64 v5))), (11, .one (.c (C.int .i64 v6))), (12, .one (.c (C.bool v7))), (13, .one (.c (C.int .i64 v8)))], [], 129, 156⟩ Ae_d
noncomputable def Ae_l3 (L : Lv) (k : Nat) (x0 : BA) (x1 : Int) (m0 : Nat) (v3 v5 v6 : Int) (v7 v8 : Bool) : Option Bool := Ak Ab Try.prog (orK L) kp k 96 [.v (.one (.c (C.str x0))), .v (.one (.c (C.int .i64 x1)))] [1, 1, 1, 0, 1, 0, 0, 1, 0, 0, 1, 1, 1, 1, 1, 1, 1, 1, 1, 0, 0] [m0] ⟨[(0, .one (.c (C.str x0))), (1, .one (.c (C.int .i64 x1))), (5, .one (.c (C.int .i64 (IntKind.i64.wrap ((x0.size : Int) - x1))))), (6, .one (.c (C.int .i64 v3))), (7, .one (.c (C.str (x0.extract x1.toNat ((x0.size : Int).toNat))))), (10, .one (.c (C.int .i64 v5))), (11, .one (.c (C.int .i64 v6))), (12, .one (.c (C.bool v7))), (14, .one (.c (C.bool v8)))], [], 129, 156⟩ Ae_d
noncomputable def Ae_l4 (L : Lv) (k : Nat) (x0 : BA) (x1 : Int) (m0 m1 : Nat) (v3 v5 v6 v7 : Int) : Option Bool := Ak Ab Try.prog (orK L) kp k 96 [.v (.one (.c (C.str x0))), .v (.one (.c (C.int .i64 x1)))] [1, 1, 1, 0, 1, 0, 0, 1, 0, 0, 1, 1, 1, 1, 1, 1, 1, 1, 1, 1, 1, 0] [m0, m1] ⟨[(0, .one (.c (C.str x0))), (1, .one (.c (C.int .i64 x1))), (5, .one (.c (C.int .i64 (IntKind.i64.wrap ((x0.size : Int) - x1))))), (6, .one (.c (C.int .i64 v3))), (7, .one (.c (C.str (x0.extract x1.toNat ((x0.size : Int).toNat))))), (10, .one (.c (C.int .i64 v5))), (11, .one (.c (C.int .i64 v6))), (15, .one (.c (C.int .i64 v7)))], [], 129, 156⟩ Ae_d
noncomputable def An_b (L : Lv) (k : Nat) (x0 : BA) (x1 x2 : Int) : Option Int := As Ab Try.prog (orK L) kp k 93 [.v (.one (.c (C.str x0))), .v (.one (.c (C.int .i64 x1))), .v (.one (.c (C.int .i64 x2)))] An_d
noncomputable def An_l0 (L : Lv) (k : Nat) (x0 : BA) (x1 x2 : Int) (m0 : Nat) (v3 v4 : Int) : Option Int := Ak Ab Try.prog (orK L) kp k 93 [.v (.one (.c (C.str x0))), .v (.one (.c (C.int .i64 x1))), .v (.one (.c (C.int .i64 x2)))] [1, 1, 0, 1, 0] [m0] ⟨[(0, .one (.c (C.str x0))), (1, .one (.c (C.int .i64 x1))), (2, .one (.c (C.int .i64 x2))), (7, .one (.c (C.int .i64 v3))), (8, .one (.c (C.int .i64 v4)))], [], 193, 54⟩ An_d
noncomputable def An_l1 (L : Lv) (k : Nat) (x0 : BA) (x1 x2 : Int) (m0 : Nat) (v3 v4 v5 : Int) : Option Int := Ak Ab Try.prog (orK L) kp k 93 [.v (.one (.c (C.str x0))), .v (.one (.c (C.int .i64 x1))), .v (.one (.c (C.int .i64 x2)))] [1, 1, 0, 1, 0, 0, 1, 0, 0, 1, 1, 1, 0, 0] [m0] ⟨[(0, .one (.c (C.str x0))), (1, .one (.c (C.int .i64 x1))), (2, .one (.c (C.int .i64 x2))), (7, .one (.c (C.int .i64 v3))), (8, .one (.c (C.int .i64 v4))), (9, .one (.c (C.int .i64 v5)))], [], 193, 54⟩ An_d
noncomputable def Be_b (L : Lv) (k : Nat) (x0 : LL) : Option Bool := As Ab Try.prog (orK L) kp k 15 [.v (.one (.c (C.row 30 x0)))] Be_d
noncomputable def Be_l0 (L : Lv) (k : Nat) (x0 : LL) (m0 : Nat) (v1 v2 : Int) : Option Bool := Ak Ab Try.prog (orK L) kp k 15 [.v (.one (.c (C.row 30 x0)))] [1, 1, 0, 1, 0] [m0] ⟨[(0, .one (.c (C.row 30 x0))), (3, .one (.c (C.int .i64 v1))), (4, .one (.c (C.int .i64 v2)))], [], 65, 108⟩ Be_d
noncomputable def Be_l1 (L : Lv) (k : Nat) (x0 : LL) (m0 m1 : Nat) (v1 v2 v3 : Int) : Option Bool := Ak Ab Try.prog (orK L) kp k 15 [.v (.one (.c (C.row 30 x0)))] [1, 1, 0, 1, 0, 0, 1, 0, 0, 1, 1, 1, 0] [m0, m1] ⟨[(0, .one (.c (C.row 30 x0))), (3, .one (.c (C.int .i64 v1))), (4, .one (.c (C.int .i64 v2))), (5, .one (.c (C.int .i64 v3)))], [], 65, 108⟩ Be_d
noncomputable def Cq_b (L : Lv) (k : Nat) (x0 : Int) : Option Bool := As Ab Try.prog (orK L) kp k 67 [.v (.one (.c (C.int .i64 x0)))] Cq_d
noncomputable def Cr_b (L : Lv) (k : Nat) (x0 : Int) : Option Bool := As Ab Try.prog (orK L) kp k 86 [.v (.one (.c (C.int .i64 x0)))] Cr_d
noncomputable def Bi_b (L : Lv) (k : Nat) (x0 : BA) (x1 : Int) (x2 : LL) : Option Bool := As Ab Try.prog (orK L) kp k 95 [.v (.one (.c (C.str x0))), .v (.one (.c (C.int .i64 x1))), .v (.one (.c (C.row 5 x2)))] Bi_d
noncomputable def Bi_l0 (L : Lv) (k : Nat) (x0 : BA) (x1 : Int) (x2 : LL) (m0 : Nat) (v3 : Int) : Option Bool := Ak Ab Try.prog (orK L) kp k 95 [.v (.one (.c (C.str x0))), .v (.one (.c (C.int .i64 x1))), .v (.one (.c (C.row 5 x2)))] [1, 1, 0, 1, 0] [m0] ⟨[(0, .one (.c (C.str x0))), (1, .one (.c (C.int .i64 x1))), (2, .one (.c (C.row 5 x2))), (7, .one (.c (C.int .i64 v3)))], [], 193, 36⟩ Bi_d
noncomputable def Cp_b (L : Lv) (k : Nat) (x0 : Int) : Option Bool := As Ab Try.prog (orK L) kp k 84 [.v (.one (.c (C.int .i64 x0)))] Cp_d
noncomputable def C9_b (L : Lv) (k : Nat) (x0 : LL) : Option Bool := As Ab Try.prog (orK L) kp k 17 [.v (.one (.c (C.row 30 x0)))] C9_d
noncomputable def By_b (L : Lv) (k : Nat) (x0 : BA) (x1 : Int) (x2 : BA) : Option Int := As Ab Try.prog (orK L) kp k 82 [.v (.one (.c (C.str x0))), .v (.one (.c (C.int .i64 x1))), .v (.one (.c (C.str x2)))] By_d
noncomputable def By_l0 (L : Lv) (k : Nat) (x0 : BA) (x1 : Int) (x2 : BA) (m0 : Nat) (v2 : Int) : Option Int := Ak Ab Try.prog (orK L) kp k 82 [.v (.one (.c (C.str x0))), .v (.one (.c (C.int .i64 x1))), .v (.one (.c (C.str x2)))] [1, 0, 1, 0] [m0] ⟨[(0, .one (.c (C.str x0))), (2, .one (.c (C.str x2))), (7, .one (.c (C.int .i64 v2)))], [], 193, 28⟩ By_d
noncomputable def Az_b (L : Lv) (k : Nat) (x0 : LL) : Option Int := As Ab Try.prog (orK L) kp k 41 [.v (.one (.c (C.row 30 x0)))] Az_d
noncomputable def Az_l0 (L : Lv) (k : Nat) (x0 : LL) (m0 : Nat) (v1 v2 : Int) : Option Int := Ak Ab Try.prog (orK L) kp k 41 [.v (.one (.c (C.row 30 x0)))] [1, 1, 0, 1, 0] [m0] ⟨[(0, .one (.c (C.row 30 x0))), (3, .one (.c (C.int .i64 v1))), (4, .one (.c (C.int .i64 v2)))], [], 65, 70⟩ Az_d
noncomputable def Az_l1 (L : Lv) (k : Nat) (x0 : LL) (m0 : Nat) (v1 v2 : Int) : Option Int := Ak Ab Try.prog (orK L) kp k 41 [.v (.one (.c (C.row 30 x0)))] [1, 1, 0, 1, 0, 0, 1, 0, 0, 1, 0, 0] [m0] ⟨[(0, .one (.c (C.row 30 x0))), (3, .one (.c (C.int .i64 v1))), (4, .one (.c (C.int .i64 v2)))], [], 65, 70⟩ Az_d
noncomputable def Az_l2 (L : Lv) (k : Nat) (x0 : LL) (m0 : Nat) (v1 v2 : Int) : Option Int := Ak Ab Try.prog (orK L) kp k 41 [.v (.one (.c (C.row 30 x0)))] [1, 1, 0, 1, 0, 0, 1, 0, 0, 1, 1, 0, 0] [m0] ⟨[(0, .one (.c (C.row 30 x0))), (3, .one (.c (C.int .i64 v1))), (4, .one (.c (C.int .i64 v2)))], [], 65, 70⟩ Az_d
noncomputable def A4_b (L : Lv) (k : Nat) (xb : Int) (xa xc : BA) (xd : LL) (xe : BA) : Option Bool := As Ab Try.prog (orK L) kp k 30 [.v (.agg [.c (C.int .i64 xb), .c (C.str xa), .c (C.str xc), .c (C.row 86 xd), .c (C.str xe)])] A4_d
noncomputable def A4_l0 (L : Lv) (k : Nat) (xb : Int) (xa xc : BA) (xd : LL) (xe : BA) (v0 : Bool) : Option Bool := Ak Ab Try.prog (orK L) kp k 30 [.v (.agg [.c (C.int .i64 xb), .c (C.str xa), .c (C.str xc), .c (C.row 86 xd), .c (C.str xe)])] [1, 1, 0, 0] [] ⟨[(1, .one (.ptr 64 0)), (3, .one (.c (C.bool v0)))], [(64, .box 30 [.c (C.int .i64 xb), .c (C.str xa), .c (C.str xc), .c (C.row 86 xd), .c (C.str xe)])], 66, 102⟩ A4_d
noncomputable def A4_l1 (L : Lv) (k : Nat) (xb : Int) (xa xc : BA) (xd : LL) (xe : BA) (m0 : Nat) (v0 : Int) : Option Bool := Ak Ab Try.prog (orK L) kp k 30 [.v (.agg [.c (C.int .i64 xb), .c (C.str xa), .c (C.str xc), .c (C.row 86 xd), .c (C.str xe)])] [1, 1, 1, 1, 1, 0, 1, 0] [m0] ⟨[(1, .one (.ptr 64 0)), (4, .one (.c (C.int .i64 v0)))], [(64, .box 30 [.c (C.int .i64 xb), .c (C.str xa), .c (C.str xc), .c (C.row 86 xd), .c (C.str xe)])], 66, 102⟩ A4_d
noncomputable def A4_l2 (L : Lv) (k : Nat) (xb : Int) (xa xc : BA) (xd : LL) (xe : BA) (m0 m1 : Nat) (v0 v1 : Int) : Option Bool := Ak Ab Try.prog (orK L) kp k 30 [.v (.agg [.c (C.int .i64 xb), .c (C.str xa), .c (C.str xc), .c (C.row 86 xd), .c (C.str xe)])] [1, 1, 1, 1, 1, 0, 1, 0, 0, 1, 0, 0, 1, 1, 0] [m0, m1] ⟨[(1, .one (.ptr 64 0)), (4, .one (.c (C.int .i64 v0))), (5, .one (.c (C.int .i64 v1)))], [(64, .box 30 [.c (C.int .i64 xb), .c (C.str xa), .c (C.str xc), .c (C.row 86 xd), .c (C.str xe)])], 66, 102⟩ A4_d
noncomputable def C5_b (L : Lv) (k : Nat) (xb xa : BA) : Option Bool := As Ab Try.prog (orK L) kp k 51 [.v (.agg [.c (C.str xb), .c (C.str xa)])] C5_d
noncomputable def Ct_b (L : Lv) (k : Nat) (xb xa xc : LL) (xd xe xf : Int) (xj xk x1 : LL) (x2 : Int) : Option (Bool × Bool × BA) := As Ab Try.prog (orK L) kp k 18 [.v (.agg [.c (C.row 25 xb), .c (C.row 39 xa), .c (C.row 3 xc), .c (C.int .i64 xd), .c (C.int .i64 xe), .c (C.int .i64 xf), .c (C.row 83 xj), .c (C.row 66 xk)]), .v (.one (.c (C.row 30 x1))), .v (.one (.c (C.int .i64 x2)))] Ct_d
noncomputable def Bp_b (L : Lv) (k : Nat) (x0 : LL) (x1 : Int) : Option Int := As Ab Try.prog (orK L) kp k 42 [.v (.one (.c (C.row 30 x0))), .v (.one (.c (C.int .i64 x1)))] Bp_d
noncomputable def Bp_l0 (L : Lv) (k : Nat) (x0 : LL) (x1 : Int) (m0 : Nat) (v1 v2 : Int) : Option Int := Ak Ab Try.prog (orK L) kp k 42 [.v (.one (.c (C.row 30 x0))), .v (.one (.c (C.int .i64 x1)))] [1, 1, 0, 1, 0] [m0] ⟨[(0, .one (.c (C.row 30 x0))), (5, .one (.c (C.int .i64 v1))), (6, .one (.c (C.int .i64 v2)))], [], 129, 36⟩ Bp_d
noncomputable def Ad_b (L : Lv) (k : Nat) (xb xa xc : LL) (xd xe xf : Int) (xj xk : LL) (xg : Int) (xh xi : BA) (xl : LL) (xm : BA) (xn xo : Bool) (xp : BA) (xx xy : Bool) (xz : BA) : Option (Bool × Bool × BA) := As Ab Try.prog (orK L) kp k 14 [.v (.agg [.c (C.row 25 xb), .c (C.row 39 xa), .c (C.row 3 xc), .c (C.int .i64 xd), .c (C.int .i64 xe), .c (C.int .i64 xf), .c (C.row 83 xj), .c (C.row 66 xk)]), .v (.agg [.c (C.int .i64 xg), .c (C.str xh), .c (C.str xi), .c (C.row 86 xl), .c (C.str xm)]), .v (.agg [.c (C.bool xn), .c (C.bool xo), .c (C.str xp)]), .v (.agg [.c (C.bool xx), .c (C.bool xy), .c (C.str xz)])] Ad_d
noncomputable def Ad_l0 (L : Lv) (k : Nat) (xb xa xc : LL) (xd xe xf : Int) (xj xk : LL) (xg : Int) (xh xi : BA) (xl : LL) (xm : BA) (xn xo : Bool) (xp : BA) (xx xy : Bool) (xz : BA) (m0 : Nat) (v0 : Int) (v23 : LL) : Option (Bool × Bool × BA) := Ak Ab Try.prog (orK L) kp k 14 [.v (.agg [.c (C.row 25 xb), .c (C.row 39 xa), .c (C.row 3 xc), .c (C.int .i64 xd), .c (C.int .i64 xe), .c (C.int .i64 xf), .c (C.row 83 xj), .c (C.row 66 xk)]), .v (.agg [.c (C.int .i64 xg), .c (C.str xh), .c (C.str xi), .c (C.row 86 xl), .c (C.str xm)]), .v (.agg [.c (C.bool xn), .c (C.bool xo), .c (C.str xp)]), .v (.agg [.c (C.bool xx), .c (C.bool xy), .c (C.str xz)])] [1, 1, 0, 1, 0] [m0] ⟨[(4, .one (.ptr 256 0)), (5, .one (.ptr 257 0)), (6, .one (.ptr 258 0)), (7, .one (.ptr 259 0)), (8, .one (.ptr 260 0)), (9, .one (.arr 261)), (10, .one (.c (C.int .i64 v0)))], [(256, .box 41 [.c (C.row 25 xb), .c (C.row 39 xa), .c (C.row 3 xc), .c (C.int .i64 xd), .c (C.int .i64 xe), .c (C.int .i64 xf), .c (C.row 83 xj), .c (C.row 66 xk)]), (257, .box 30 [.c (C.int .i64 xg), .c (C.str xh), .c (C.str xi), .c (C.row 86 xl), .c (C.str xm)]), (258, .box 44 [.c (C.bool xn), .c (C.bool xo), .c (C.str xp)]), (259, .box 44 [.c (C.bool xx), .c (C.bool xy), .c (C.str xz)]), (260, .box 44 [.c (C.bool false), .c (C.bool false), .c (C.str (⟨#[]⟩ : BA))]), (261, .arr 5 false v23)], 263, 136⟩ Ad_d
noncomputable def Ad_l1 (L : Lv) (k : Nat) (xb xa xc : LL) (xd xe xf : Int) (xj xk : LL) (xg : Int) (xh xi : BA) (xl : LL) (xm : BA) (xn xo : Bool) (xp : BA) (xx xy : Bool) (xz : BA) (m0 m1 : Nat) (v0 : Int) (v24 : LL) (v25 v26 v27 : Int) (v28 v29 : LL) : Option (Bool × Bool × BA) := Ak Ab Try.prog (orK L) kp k 14 [.v (.agg [.c (C.row 25 xb), .c (C.row 39 xa), .c (C.row 3 xc), .c (C.int .i64 xd), .c (C.int .i64 xe), .c (C.int .i64 xf), .c (C.row 83 xj), .c (C.row 66 xk)]), .v (.agg [.c (C.int .i64 xg), .c (C.str xh), .c (C.str xi), .c (C.row 86 xl), .c (C.str xm)]), .v (.agg [.c (C.bool xn), .c (C.bool xo), .c (C.str xp)]), .v (.agg [.c (C.bool xx), .c (C.bool xy), .c (C.str xz)])] [1, 1, 0, 1, 0, 0, 1, 0, 0, 1, 1, 0, 1, 0] [m0, m1] ⟨[(4, .one (.ptr 256 0)), (5, .one (.ptr 257 0)), (6, .one (.ptr 258 0)), (7, .one (.ptr 259 0)), (8, .one (.ptr 260 0)), (9, .one (.arr 261)), (10, .one (.c (C.int .i64 v0))), (11, .one (.ptr 262 0)), (12, .one (.c (C.nil 4))), (13, .one (.c (C.int .i64 0)))], [(256, .box 41 [.c (C.row 25 xb), .c (C.row 39 xa), .c (C.row 3 xc), .c (C.int .i64 xd), .c (C.int .i64 xe), .c (C.int .i64 xf), .c (C.row 83 xj), .c (C.row 66 xk)]), (257, .box 30 [.c (C.int .i64 xg), .c (C.str xh), .c (C.str xi), .c (C.row 86 xl), .c (C.str xm)]), (258, .box 44 [.c (C.bool xn), .c (C.bool xo), .c (C.str xp)]), (259, .box 44 [.c (C.bool xx), .c (C.bool xy), .c (C.str xz)]), (260, .box 44 [.c (C.bool false), .c (C.bool false), .c (C.str (⟨#[]⟩ : BA))]), (261, .arr 5 false v24), (262, .box 39 [.c (C.int .i64 v25), .c (C.int .i64 v26), .c (C.int .i64 v27), .c (C.row 83 v28), .c (C.row 66 v29)])], 264, 136⟩ Ad_d
noncomputable def Ad_l2 (L : Lv) (k : Nat) (xb xa xc : LL) (xd xe xf : Int) (xj xk : LL) (xg : Int) (xh xi : BA) (xl : LL) (xm : BA) (xn xo : Bool) (xp : BA) (xx xy : Bool) (xz : BA) (m0 m1 : Nat) (v0 v1 : Int) (v24 : LL) (v25 v26 v27 : Int) (v28 v29 : LL) : Option (Bool × Bool × BA) := Ak Ab Try.prog (orK L) kp k 14 [.v (.agg [.c (C.row 25 xb), .c (C.row 39 xa), .c (C.row 3 xc), .c (C.int .i64 xd), .c (C.int .i64 xe), .c (C.int .i64 xf), .c (C.row 83 xj), .c (C.row 66 xk)]), .v (.agg [.c (C.int .i64 xg), .c (C.str xh), .c (C.str xi), .c (C.row 86 xl), .c (C.str xm)]), .v (.agg [.c (C.bool xn), .c (C.bool xo), .c (C.str xp)]), .v (.agg [.c (C.bool xx), .c (C.bool xy), .c (C.str xz)])] [1, 1, 0, 1, 0, 0, 1, 0, 0, 1, 1, 1, 1, 0] [m0, m1] ⟨[(4, .one (.ptr 256 0)), (5, .one (.ptr 257 0)), (6, .one (.ptr 258 0)), (7, .one (.ptr 259 0)), (8, .one (.ptr 260 0)), (9, .one (.arr 261)), (10, .one (.c (C.int .i64 v0))), (11, .one (.ptr 262 0)), (12, .one (.c (C.nil 4))), (14, .one (.c (C.int .i64 v1)))], [(256, .box 41 [.c (C.row 25 xb), .c (C.row 39 xa), .c (C.row 3 xc), .c (C.int .i64 xd), .c (C.int .i64 xe), .c (C.int .i64 xf), .c (C.row 83 xj), .c (C.row 66 xk)]), (257, .box 30 [.c (C.int .i64 xg), .c (C.str xh), .c (C.str xi), .c (C.row 86 xl), .c (C.str xm)]), (258, .box 44 [.c (C.bool xn), .c (C.bool xo), .c (C.str xp)]), (259, .box 44 [.c (C.bool xx), .c (C.bool xy), .c (C.str xz)]), (260, .box 44 [.c (C.bool false), .c (C.bool false), .c (C.str (⟨#[]⟩ : BA))]), (261, .arr 5 false v24), (262, .box 39 [.c (C.int .i64 v25), .c (C.int .i64 v26), .c (C.int .i64 v27), .c (C.row 83 v28), .c (C.row 66 v29)])], 264, 136⟩ Ad_d
noncomputable def Ad_l3 (L : Lv) (k : Nat) (xb xa xc : LL) (xd xe xf : Int) (xj xk : LL) (xg : Int) (xh xi : BA) (xl : LL) (xm : BA) (xn xo : Bool) (xp : BA) (xx xy : Bool) (xz : BA) (m0 m1 : Nat) (v0 v1 : Int) (v24 : LL) (v25 v26 v27 : Int) (v28 v29 v30 : LL) : Option (Bool × Bool × BA) := Ak Ab Try.prog (orK L) kp k 14 [.v (.agg [.c (C.row 25 xb), .c (C.row 39 xa), .c (C.row 3 xc), .c (C.int .i64 xd), .c (C.int .i64 xe), .c (C.int .i64 xf), .c (C.row 83 xj), .c (C.row 66 xk)]), .v (.agg [.c (C.int .i64 xg), .c (C.str xh), .c (C.str xi), .c (C.row 86 xl), .c (C.str xm)]), .v (.agg [.c (C.bool xn), .c (C.bool xo), .c (C.str xp)]), .v (.agg [.c (C.bool xx), .c (C.bool xy), .c (C.str xz)])] [1, 1, 0, 1, 0, 0, 1, 0, 0, 1, 1, 0, 1, 0] [m0, m1] ⟨[(4, .one (.ptr 256 0)), (5, .one (.ptr 257 0)), (6, .one (.ptr 258 0)), (7, .one (.ptr 259 0)), (8, .one (.ptr 260 0)), (9, .one (.arr 261)), (10, .one (.c (C.int .i64 v0))), (11, .one (.ptr 262 0)), (12, .one (.arr 263)), (13, .one (.c (C.int .i64 v1)))], [(256, .box 41 [.c (C.row 25 xb), .c (C.row 39 xa), .c (C.row 3 xc), .c (C.int .i64 xd), .c (C.int .i64 xe), .c (C.int .i64 xf), .c (C.row 83 xj), .c (C.row 66 xk)]), (257, .box 30 [.c (C.int .i64 xg), .c (C.str xh), .c (C.str xi), .c (C.row 86 xl), .c (C.str xm)]), (258, .box 44 [.c (C.bool xn), .c (C.bool xo), .c (C.str xp)]), (259, .box 44 [.c (C.bool xx), .c (C.bool xy), .c (C.str xz)]), (260, .box 44 [.c (C.bool false), .c (C.bool false), .c (C.str (⟨#[]⟩ : BA))]), (261, .arr 5 false v24), (262, .box 39 [.c (C.int .i64 v25), .c (C.int .i64 v26), .c (C.int .i64 v27), .c (C.row 83 v28), .c (C.row 66 v29)]), (263, .arr 4 false v30)], 265, 136⟩ Ad_d
noncomputable def Ad_l4 (L : Lv) (k : Nat) (xb xa xc : LL) (xd xe xf : Int) (xj xk : LL) (xg : Int) (xh xi : BA) (xl : LL) (xm : BA) (xn xo : Bool) (xp : BA) (xx xy : Bool) (xz : BA) (m0 m1 m2 : Nat) (v0 v1 : Int) (v2 : Bool) (v3 : Int) (v26 : LL) (v27 v28 v29 : Int) (v30 v31 v32 : LL) : Option (Bool × Bool × BA) := Ak Ab Try.prog (orK L) kp k 14 [.v (.agg [.c (C.row 25 xb), .c (C.row 39 xa), .c (C.row 3 xc), .c (C.int .i64 xd), .c (C.int .i64 xe), .c (C.int .i64 xf), .c (C.row 83 xj), .c (C.row 66 xk)]), .v (.agg [.c (C.int .i64 xg), .c (C.str xh), .c (C.str xi), .c (C.row 86 xl), .c (C.str xm)]), .v (.agg [.c (C.bool xn), .c (C.bool xo), .c (C.str xp)]), .v (.agg [.c (C.bool xx), .c (C.bool xy), .c (C.str xz)])] [1, 1, 0, 1, 0, 0, 1, 0, 0, 1, 1, 1, 1, 0, 0, 1, 0, 0, 1, 1, 0, 1, 0] [m0, m1, m2] ⟨[(4, .one (.ptr 256 0)), (5, .one (.ptr 257 0)), (6, .one (.ptr 258 0)), (7, .one (.ptr 259 0)), (8, .one (.ptr 260 0)), (9, .one (.arr 261)), (10, .one (.c (C.int .i64 v0))), (11, .one (.ptr 262 0)), (12, .one (.c (C.nil 4))), (14, .one (.c (C.int .i64 v1))), (15, .one (.arr 263)), (16, .one (.c (C.bool v2))), (17, .one (.c (C.int .i64 v3)))], [(256, .box 41 [.c (C.row 25 xb), .c (C.row 39 xa), .c (C.row 3 xc), .c (C.int .i64 xd), .c (C.int .i64 xe), .c (C.int .i64 xf), .c (C.row 83 xj), .c (C.row 66 xk)]), (257, .box 30 [.c (C.int .i64 xg), .c (C.str xh), .c (C.str xi), .c (C.row 86 xl), .c (C.str xm)]), (258, .box 44 [.c (C.bool xn), .c (C.bool xo), .c (C.str xp)]), (259, .box 44 [.c (C.bool xx), .c (C.bool xy), .c (C.str xz)]), (260, .box 44 [.c (C.bool false), .c (C.bool false), .c (C.str (⟨#[]⟩ : BA))]), (261, .arr 5 false v26), (262, .box 39 [.c (C.int .i64 v27), .c (C.int .i64 v28), .c (C.int .i64 v29), .c (C.row 83 v30), .c (C.row 66 v31)]), (263, .arr 4 false v32)], 265, 136⟩ Ad_d
noncomputable def Ad_l5 (L : Lv) (k : Nat) (xb xa xc : LL) (xd xe xf : Int) (xj xk : LL) (xg : Int) (xh xi : BA) (xl : LL) (xm : BA) (xn xo : Bool) (xp : BA) (xx xy : Bool) (xz : BA) (m0 m1 : Nat) (v0 v1 : Int) (v24 : LL) (v25 v26 v27 : Int) (v28 v29 v30 : LL) : Option (Bool × Bool × BA) := Ak Ab Try.prog (orK L) kp k 14 [.v (.agg [.c (C.row 25 xb), .c (C.row 39 xa), .c (C.row 3 xc), .c (C.int .i64 xd), .c (C.int .i64 xe), .c (C.int .i64 xf), .c (C.row 83 xj), .c (C.row 66 xk)]), .v (.agg [.c (C.int .i64 xg), .c (C.str xh), .c (C.str xi), .c (C.row 86 xl), .c (C.str xm)]), .v (.agg [.c (C.bool xn), .c (C.bool xo), .c (C.str xp)]), .v (.agg [.c (C.bool xx), .c (C.bool xy), .c (C.str xz)])] [1, 1, 0, 1, 0, 0, 1, 0, 0, 1, 1, 1, 1, 0] [m0, m1] ⟨[(4, .one (.ptr 256 0)), (5, .one (.ptr 257 0)), (6, .one (.ptr 258 0)), (7, .one (.ptr 259 0)), (8, .one (.ptr 260 0)), (9, .one (.arr 261)), (10, .one (.c (C.int .i64 v0))), (11, .one (.ptr 262 0)), (12, .one (.arr 263)), (14, .one (.c (C.int .i64 v1)))], [(256, .box 41 [.c (C.row 25 xb), .c (C.row 39 xa), .c (C.row 3 xc), .c (C.int .i64 xd), .c (C.int .i64 xe), .c (C.int .i64 xf), .c (C.row 83 xj), .c (C.row 66 xk)]), (257, .box 30 [.c (C.int .i64 xg), .c (C.str xh), .c (C.str xi), .c (C.row 86 xl), .c (C.str xm)]), (258, .box 44 [.c (C.bool xn), .c (C.bool xo), .c (C.str xp)]), (259, .box 44 [.c (C.bool xx), .c (C.bool xy), .c (C.str xz)]), (260, .box 44 [.c (C.bool false), .c (C.bool false), .c (C.str (⟨#[]⟩ : BA))]), (261, .arr 5 false v24), (262, .box 39 [.c (C.int .i64 v25), .c (C.int .i64 v26), .c (C.int .i64 v27), .c (C.row 83 v28), .c (C.row 66 v29)]), (263, .arr 4 false v30)], 265, 136⟩ Ad_d
noncomputable def Ad_l6 (L : Lv) (k : Nat) (xb xa xc : LL) (xd xe xf : Int) (xj xk : LL) (xg : Int) (xh xi : BA) (xl : LL) (xm : BA) (xn xo : Bool) (xp : BA) (xx xy : Bool) (xz : BA) (m0 m1 m2 : Nat) (v0 v1 : Int) (v2 : Bool) (v3 : Int) (v26 : LL) (v27 v28 v29 : Int) (v30 v31 v32 : LL) : Option (Bool × Bool × BA) := Ak Ab Try.prog (orK L) kp k 14 [.v (.agg [.c (C.row 25 xb), .c (C.row 39 xa), .c (C.row 3 xc), .c (C.int .i64 xd), .c (C.int .i64 xe), .c (C.int .i64 xf), .c (C.row 83 xj), .c (C.row 66 xk)]), .v (.agg [.c (C.int .i64 xg), .c (C.str xh), .c (C.str xi), .c (C.row 86 xl), .c (C.str xm)]), .v (.agg [.c (C.bool xn), .c (C.bool xo), .c (C.str xp)]), .v (.agg [.c (C.bool xx), .c (C.bool xy), .c (C.str xz)])] [1, 1, 0, 1, 0, 0, 1, 0, 0, 1, 1, 1, 1, 0, 0, 1, 0, 0, 1, 1, 0, 1, 0, 0, 1, 1] [m0, m1, m2] ⟨[(4, .one (.ptr 256 0)), (5, .one (.ptr 257 0)), (6, .one (.ptr 258 0)), (7, .one (.ptr 259 0)), (8, .one (.ptr 260 0)), (9, .one (.arr 261)), (10, .one (.c (C.int .i64 v0))), (11, .one (.ptr 262 0)), (12, .one (.c (C.nil 4))), (14, .one (.c (C.int .i64 v1))), (15, .one (.arr 263)), (16, .one (.c (C.bool v2))), (17, .one (.c (C.int .i64 v3)))], [(256, .box 41 [.c (C.row 25 xb), .c (C.row 39 xa), .c (C.row 3 xc), .c (C.int .i64 xd), .c (C.int .i64 xe), .c (C.int .i64 xf), .c (C.row 83 xj), .c (C.row 66 xk)]), (257, .box 30 [.c (C.int .i64 xg), .c (C.str xh), .c (C.str xi), .c (C.row 86 xl), .c (C.str xm)]), (258, .box 44 [.c (C.bool xn), .c (C.bool xo), .c (C.str xp)]), (259, .box 44 [.c (C.bool xx), .c (C.bool xy), .c (C.str xz)]), (260, .box 44 [.c (C.bool false), .c (C.bool false), .c (C.str (⟨#[]⟩ : BA))]), (261, .arr 5 false v26), (262, .box 39 [.c (C.int .i64 v27), .c (C.int .i64 v28), .c (C.int .i64 v29), .c (C.row 83 v30), .c (C.row 66 v31)]), (263, .arr 4 false v32)], 265, 136⟩ Ad_d
noncomputable def Ad_l7 (L : Lv) (k : Nat) (xb xa xc : LL) (xd xe xf : Int) (xj xk : LL) (xg : Int) (xh xi : BA) (xl : LL) (xm : BA) (xn xo : Bool) (xp : BA) (xx xy : Bool) (xz : BA) (m0 m1 m2 : Nat) (v0 v1 : Int) (v2 : Bool) (v3 : Int) (v26 : LL) (v27 v28 v29 : Int) (v30 v31 v32 v33 : LL) : Option (Bool × Bool × BA) := Ak Ab Try.prog (orK L) kp k 14 [.v (.agg [.c (C.row 25 xb), .c (C.row 39 xa), .c (C.row 3 xc), .c (C.int .i64 xd), .c (C.int .i64 xe), .c (C.int .i64 xf), .c (C.row 83 xj), .c (C.row 66 xk)]), .v (.agg [.c (C.int .i64 xg), .c (C.str xh), .c (C.str xi), .c (C.row 86 xl), .c (C.str xm)]), .v (.agg [.c (C.bool xn), .c (C.bool xo), .c (C.str xp)]), .v (.agg [.c (C.bool xx), .c (C.bool xy), .c (C.str xz)])] [1, 1, 0, 1, 0, 0, 1, 0, 0, 1, 1, 1, 1, 0, 0, 1, 0, 0, 1, 1, 0, 1, 0] [m0, m1, m2] ⟨[(4, .one (.ptr 256 0)), (5, .one (.ptr 257 0)), (6, .one (.ptr 258 0)), (7, .one (.ptr 259 0)), (8, .one (.ptr 260 0)), (9, .one (.arr 261)), (10, .one (.c (C.int .i64 v0))), (11, .one (.ptr 262 0)), (12, .one (.arr 263)), (14, .one (.c (C.int .i64 v1))), (15, .one (.arr 264)), (16, .one (.c (C.bool v2))), (17, .one (.c (C.int .i64 v3)))], [(256, .box 41 [.c (C.row 25 xb), .c (C.row 39 xa), .c (C.row 3 xc), .c (C.int .i64 xd), .c (C.int .i64 xe), .c (C.int .i64 xf), .c (C.row 83 xj), .c (C.row 66 xk)]), (257, .box 30 [.c (C.int .i64 xg), .c (C.str xh), .c (C.str xi), .c (C.row 86 xl), .c (C.str xm)]), (258, .box 44 [.c (C.bool xn), .c (C.bool xo), .c (C.str xp)]), (259, .box 44 [.c (C.bool xx), .c (C.bool xy), .c (C.str xz)]), (260, .box 44 [.c (C.bool false), .c (C.bool false), .c (C.str (⟨#[]⟩ : BA))]), (261, .arr 5 false v26), (262, .box 39 [.c (C.int .i64 v27), .c (C.int .i64 v28), .c (C.int .i64 v29), .c (C.row 83 v30), .c (C.row 66 v31)]), (263, .arr 4 false v32), (264, .arr 4 false v33)], 266, 136⟩ Ad_d
noncomputable def Ad_l8 (L : Lv) (k : Nat) (xb xa xc : LL) (xd xe xf : Int) (xj xk : LL) (xg : Int) (xh xi : BA) (xl : LL) (xm : BA) (xn xo : Bool) (xp : BA) (xx xy : Bool) (xz : BA) (m0 m1 m2 : Nat) (v0 v1 : Int) (v2 : Bool) (v3 : Int) (v26 : LL) (v27 v28 v29 : Int) (v30 v31 v32 v33 : LL) : Option (Bool × Bool × BA) := Ak Ab Try.prog (orK L) kp k 14 [.v (.agg [.c (C.row 25 xb), .c (C.row 39 xa), .c (C.row 3 xc), .c (C.int .i64 xd), .c (C.int .i64 xe), .c (C.int .i64 xf), .c (C.row 83 xj), .c (C.row 66 xk)]), .v (.agg [.c (C.int .i64 xg), .c (C.str xh), .c (C.str xi), .c (C.row 86 xl), .c (C.str xm)]), .v (.agg [.c (C.bool xn), .c (C.bool xo), .c (C.str xp)]), .v (.agg [.c (C.bool xx), .c (C.bool xy), .c (C.str xz)])] [1, 1, 0, 1, 0, 0, 1, 0, 0, 1, 1, 1, 1, 0, 0, 1, 0, 0, 1, 1, 0, 1, 0, 0, 1, 1] [m0, m1, m2] ⟨[(4, .one (.ptr 256 0)), (5, .one (.ptr 257 0)), (6, .one (.ptr 258 0)), (7, .one (.ptr 259 0)), (8, .one (.ptr 260 0)), (9, .one (.arr 261)), (10, .one (.c (C.int .i64 v0))), (11, .one (.ptr 262 0)), (12, .one (.arr 263)), (14, .one (.c (C.int .i64 v1))), (15, .one (.arr 264)), (16, .one (.c (C.bool v2))), (17, .one (.c (C.int .i64 v3)))], [(256, .box 41 [.c (C.row 25 xb), .c (C.row 39 xa), .c (C.row 3 xc), .c (C.int .i64 xd), .c (C.int .i64 xe), .c (C.int .i64 xf), .c (C.row 83 xj), .c (C.row 66 xk)]), (257, .box 30 [.c (C.int .i64 xg), .c (C.str xh), .c (C.str xi), .c (C.row 86 xl), .c (C.str xm)]), (258, .box 44 [.c (C.bool xn), .c (C.bool xo), .c (C.str xp)]), (259, .box 44 [.c (C.bool xx), .c (C.bool xy), .c (C.str xz)]), (260, .box 44 [.c (C.bool false), .c (C.bool false), .c (C.str (⟨#[]⟩ : BA))]), (261, .arr 5 false v26), (262, .box 39 [.c (C.int .i64 v27), .c (C.int .i64 v28), .c (C.int .i64 v29), .c (C.row 83 v30), .c (C.row 66 v31)]), (263, .arr 4 false v32), (264, .arr 4 false v33)], 266, 136⟩ Ad_d
noncomputable def B3_b (L : Lv) (k : Nat) (xb xa xc : LL) (xd xe xf : Int) (xj xk : LL) : Option Int := As Ab Try.prog (orK L) kp k 34 [.v (.agg [.c (C.row 25 xb), .c (C.row 39 xa), .c (C.row 3 xc), .c (C.int .i64 xd), .c (C.int .i64 xe), .c (C.int .i64 xf), .c (C.row 83 xj), .c (C.row 66 xk)])] B3_d
noncomputable def B3_l0 (L : Lv) (k : Nat) (xb xa xc : LL) (xd xe xf : Int) (xj xk : LL) (m0 : Nat) (v0 v1 : Int) : Option Int := Ak Ab Try.prog (orK L) kp k 34 [.v (.agg [.c (C.row 25 xb), .c (C.row 39 xa), .c (C.row 3 xc), .c (C.int .i64 xd), .c (C.int .i64 xe), .c (C.int .i64 xf), .c (C.row 83 xj), .c (C.row 66 xk)])] [1, 1, 0, 1, 0] [m0] ⟨[(1, .one (.ptr 64 0)), (3, .one (.c (C.int .i64 v0))), (4, .one (.c (C.int .i64 v1)))], [(64, .box 41 [.c (C.row 25 xb), .c (C.row 39 xa), .c (C.row 3 xc), .c (C.int .i64 xd), .c (C.int .i64 xe), .c (C.int .i64 xf), .c (C.row 83 xj), .c (C.row 66 xk)])], 66, 21⟩ B3_d
noncomputable def A0_b (L : Lv) (k : Nat) (xb xa xc : LL) (xd xe xf : Int) (xj xk : LL) (xg : Int) (xh xi xl : BA) (xm xq : LL) (xn : Int) (xo xp : BA) (yi : LL) (yj : BA) (x3 : LL) : Option Bool := As Ab Try.prog (orK L) kp k 25 [.v (.agg [.c (C.row 25 xb), .c (C.row 39 xa), .c (C.row 3 xc), .c (C.int .i64 xd), .c (C.int .i64 xe), .c (C.int .i64 xf), .c (C.row 83 xj), .c (C.row 66 xk)]), .v (.agg [.c (C.int .i64 xg), .c (C.str xh), .c (C.str xi), .c (C.str xl), .c (C.row 66 xm), .c (C.row 25 xq)]), .v (.agg [.c (C.int .i64 xn), .c (C.str xo), .c (C.str xp), .c (C.row 86 yi), .c (C.str yj)]), .v (.one (.c (C.row 5 x3)))] A0_d
noncomputable def A0_l0 (L : Lv) (k : Nat) (xb xa xc : LL) (xd xe xf : Int) (xj xk : LL) (xg : Int) (xh xi xl : BA) (xm xq : LL) (xn : Int) (xo xp : BA) (yi : LL) (yj : BA) (x3 : LL) (m0 : Nat) (v1 v2 : Bool) (v3 : Int) : Option Bool := Ak Ab Try.prog (orK L) kp k 25 [.v (.agg [.c (C.row 25 xb), .c (C.row 39 xa), .c (C.row 3 xc), .c (C.int .i64 xd), .c (C.int .i64 xe), .c (C.int .i64 xf), .c (C.row 83 xj), .c (C.row 66 xk)]), .v (.agg [.c (C.int .i64 xg), .c (C.str xh), .c (C.str xi), .c (C.str xl), .c (C.row 66 xm), .c (C.row 25 xq)]), .v (.agg [.c (C.int .i64 xn), .c (C.str xo), .c (C.str xp), .c (C.row 86 yi), .c (C.str yj)]), .v (.one (.c (C.row 5 x3)))] [1, 1, 0, 1, 0, 1, 1, 0, 1, 0] [m0] ⟨[(3, .one (.c (C.row 5 x3))), (4, .one (.ptr 256 0)), (5, .one (.ptr 257 0)), (6, .one (.ptr 258 0)), (9, .one (.c (C.bool v1))), (10, .one (.c (C.bool v2))), (11, .one (.c (C.int .i64 v3)))], [(256, .box 41 [.c (C.row 25 xb), .c (C.row 39 xa), .c (C.row 3 xc), .c (C.int .i64 xd), .c (C.int .i64 xe), .c (C.int .i64 xf), .c (C.row 83 xj), .c (C.row 66 xk)]), (257, .box 66 [.c (C.int .i64 xg), .c (C.str xh), .c (C.str xi), .c (C.str xl), .c (C.row 66 xm), .c (C.row 25 xq)]), (258, .box 30 [.c (C.int .i64 xn), .c (C.str xo), .c (C.str xp), .c (C.row 86 yi), .c (C.str yj)])], 260, 177⟩ A0_d
noncomputable def A0_l1 (L : Lv) (k : Nat) (xb xa xc : LL) (xd xe xf : Int) (xj xk : LL) (xg : Int) (xh xi xl : BA) (xm xq : LL) (xn : Int) (xo xp : BA) (yi : LL) (yj : BA) (x3 : LL) (m0 : Nat) (v0 : Int) : Option Bool := Ak Ab Try.prog (orK L) kp k 25 [.v (.agg [.c (C.row 25 xb), .c (C.row 39 xa), .c (C.row 3 xc), .c (C.int .i64 xd), .c (C.int .i64 xe), .c (C.int .i64 xf), .c (C.row 83 xj), .c (C.row 66 xk)]), .v (.agg [.c (C.int .i64 xg), .c (C.str xh), .c (C.str xi), .c (C.str xl), .c (C.row 66 xm), .c (C.row 25 xq)]), .v (.agg [.c (C.int .i64 xn), .c (C.str xo), .c (C.str xp), .c (C.row 86 yi), .c (C.str yj)]), .v (.one (.c (C.row 5 x3)))] [1, 1, 1, 1, 1, 1, 1, 1, 0, 1, 0] [m0] ⟨[(5, .one (.ptr 256 0)), (6, .one (.ptr 257 0)), (14, .one (.c (C.int .i64 v0)))], [(256, .box 66 [.c (C.int .i64 xg), .c (C.str xh), .c (C.str xi), .c (C.str xl), .c (C.row 66 xm), .c (C.row 25 xq)]), (257, .box 30 [.c (C.int .i64 xn), .c (C.str xo), .c (C.str xp), .c (C.row 86 yi), .c (C.str yj)])], 259, 177⟩ A0_d
noncomputable def Ax_b (L : Lv) (k : Nat) (xb xa xc : Int) (xd xe x1 x2 : LL) : Option LL := As Ab Try.prog (orK L) kp k 37 [.v (.agg [.c (C.int .i64 xb), .c (C.int .i64 xa), .c (C.int .i64 xc), .c (C.row 83 xd), .c (C.row 66 xe)]), .v (.one (.c (C.row 3 x1))), .v (.one (.c (C.row 4 x2)))] Ax_d
noncomputable def Ax_l0 (L : Lv) (k : Nat) (xb xa xc : Int) (xd xe x1 x2 : LL) (m0 : Nat) (v2 : Int) (v8 : LL) : Option LL := Ak Ab Try.prog (orK L) kp k 37 [.v (.agg [.c (C.int .i64 xb), .c (C.int .i64 xa), .c (C.int .i64 xc), .c (C.row 83 xd), .c (C.row 66 xe)]), .v (.one (.c (C.row 3 x1))), .v (.one (.c (C.row 4 x2)))] [1, 1, 0, 1, 0] [m0] ⟨[(1, .one (.c (C.row 3 x1))), (2, .one (.c (C.row 4 x2))), (3, .one (.ptr 192 0)), (7, .one (.arr 193)), (8, .one (.c (C.int .i64 v2)))], [(192, .box 39 [.c (C.int .i64 xb), .c (C.int .i64 xa), .c (C.int .i64 xc), .c (C.row 83 xd), .c (C.row 66 xe)]), (193, .arr 4 false v8)], 195, 72⟩ Ax_d
noncomputable def Ax_l1 (L : Lv) (k : Nat) (xb xa xc : Int) (xd xe x1 x2 : LL) (m0 : Nat) (v1 : Int) (v7 : LL) : Option LL := Ak Ab Try.prog (orK L) kp k 37 [.v (.agg [.c (C.int .i64 xb), .c (C.int .i64 xa), .c (C.int .i64 xc), .c (C.row 83 xd), .c (C.row 66 xe)]), .v (.one (.c (C.row 3 x1))), .v (.one (.c (C.row 4 x2)))] [1, 1, 1, 0, 1, 0] [m0] ⟨[(2, .one (.c (C.row 4 x2))), (3, .one (.ptr 192 0)), (7, .one (.arr 193)), (9, .one (.c (C.int .i64 v1)))], [(192, .box 39 [.c (C.int .i64 xb), .c (C.int .i64 xa), .c (C.int .i64 xc), .c (C.row 83 xd), .c (C.row 66 xe)]), (193, .arr 4 false v7)], 195, 72⟩ Ax_d
noncomputable def Ax_l2 (L : Lv) (k : Nat) (xb xa xc : Int) (xd xe x1 x2 : LL) (m0 m1 : Nat) (v1 v2 : Int) (v8 : LL) : Option LL := Ak Ab Try.prog (orK L) kp k 37 [.v (.agg [.c (C.int .i64 xb), .c (C.int .i64 xa), .c (C.int .i64 xc), .c (C.row 83 xd), .c (C.row 66 xe)]), .v (.one (.c (C.row 3 x1))), .v (.one (.c (C.row 4 x2)))] [1, 1, 1, 0, 1, 0, 0, 1, 0, 0, 1, 0] [m0, m1] ⟨[(2, .one (.c (C.row 4 x2))), (3, .one (.ptr 192 0)), (7, .one (.arr 193)), (9, .one (.c (C.int .i64 v1))), (10, .one (.c (C.int .i64 v2)))], [(192, .box 39 [.c (C.int .i64 xb), .c (C.int .i64 xa), .c (C.int .i64 xc), .c (C.row 83 xd), .c (C.row 66 xe)]), (193, .arr 4 false v8)], 195, 72⟩ Ax_d
noncomputable def Cf_b (L : Lv) (k : Nat) (xb xa : Bool) (xc : BA) (x1 : Int) : Option Bool := As Ab Try.prog (orK L) kp k 38 [.v (.agg [.c (C.bool xb), .c (C.bool xa), .c (C.str xc)]), .v (.one (.c (C.int .i64 x1)))] Cf_d
end Go.Vm.T
