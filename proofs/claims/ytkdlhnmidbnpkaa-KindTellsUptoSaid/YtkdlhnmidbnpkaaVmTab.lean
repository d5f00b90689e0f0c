/- The functions, as the machine tells them: definitions. -/
import Derived.Test.YtkdlhnmidbnpkaaVmThree
import Derived.Test.YtkdlhnmidbnpkaaProg
set_option linter.unusedVariables false
set_option maxHeartbeats 4000000
set_option maxRecDepth 100000
namespace Go.Vm.T
open Go Go.Vm Go.Proofs
noncomputable def kl : List (Nat × List (Nat × List Nat)) := [(6, [(9, [1, 5, 6, 7, 8]), (14, [1, 5, 6, 7, 8, 9]), (19, [1, 5, 6, 7, 8, 10])]), (11, [(5, [2, 3, 4, 5, 6])]), (13, [(3, [5, 8, 9, 22, 23])]), (15, [(3, [0, 3, 4]), (9, [0, 3, 4, 5])]), (16, [(7, [1, 2, 5, 6, 7, 8]), (2000018, [1, 2, 5, 6, 7, 8, 9, 10, 999999])]), (20, [(4, [6, 11, 12, 13]), (7, [6, 11, 12, 13, 29, 30, 31]), (2000010, [6, 11, 12, 13, 15, 16, 29, 30, 31, 999999])]), (22, [(3, [0, 2, 3, 4])]), (23, [(4, [2, 3, 5])]), (24, [(4, [3, 7, 8, 9])]), (25, [(7, [3, 4, 5, 6, 9, 10, 11]), (25, [5, 6, 14])]), (26, [(13, [4, 7, 8, 9]), (25, [2, 3, 4, 10])]), (29, [(14, [1, 2, 7]), (2000011, [1, 2, 5, 6, 999999])]), (30, [(9, [1, 4]), (14, [1, 4, 5]), (2000002, [1, 3, 999999])]), (32, [(3, [1, 3, 4]), (7, [1, 3, 5])]), (33, [(2, [2, 3, 5])]), (34, [(3, [1, 3, 4])]), (35, [(3, [3, 7, 8, 9])]), (36, [(4, [0, 4, 5, 6, 7]), (7, [0, 4, 5, 6, 7, 51, 52, 53])]), (40, [(5, [3, 9, 10, 11])]), (41, [(3, [0, 3, 4]), (2000007, [0, 3, 4, 999999]), (2000009, [0, 3, 4, 999999])]), (42, [(3, [0, 5, 6])]), (43, [(4, [9, 10, 19, 20, 21])]), (44, [(5, [2, 3, 4, 7]), (13, [3, 4, 8, 9]), (17, [3, 4, 8, 9, 10, 11]), (23, [2, 3, 4, 8, 12]), (32, [2, 3, 4, 8, 13]), (36, [2, 3, 4, 8, 13, 14, 15]), (2000027, [2, 3, 4, 8, 12, 999999]), (2000029, [2, 3, 4, 8, 12, 999999]), (1000000, [3])]), (45, [(2, [0, 1, 5])]), (48, [(3, [1, 2, 5, 6]), (7, [1, 2, 5, 7])]), (49, [(20, [1, 2, 9]), (2000005, [1, 2, 5, 6, 999999]), (2000007, [1, 2, 6, 999999]), (2000014, [1, 2, 7, 8, 999999]), (2000017, [1, 2, 7, 8, 999999])]), (50, [(3, [3, 5, 6])]), (52, [(6, [3, 4, 6, 7, 8]), (15, [2, 3, 4, 5, 10, 11]), (23, [2, 4, 5, 10, 13, 14]), (2000039, [2, 3, 4, 5, 16, 17, 999999]), (1000000, [83])]), (53, [(3, [1, 3, 4])]), (54, [(4, [2, 3, 5]), (9, [2, 3, 6])]), (56, [(3, [0, 3, 6, 7, 8]), (2000008, [0, 3, 6, 7, 8, 48, 999999])]), (57, [(5, [3, 9, 10, 11])]), (64, [(3, [1, 2, 5, 6]), (7, [1, 2, 5, 7])]), (66, [(3, [0, 5, 6])]), (68, [(5, [3, 4])]), (70, [(4, [2, 3, 5]), (9, [2, 3, 6])]), (73, [(2, [0, 3, 12, 13, 14])]), (78, [(2, [1, 2, 5])]), (82, [(2, [0, 2, 7])]), (83, [(4, [0, 1, 7])]), (88, [(3, [0, 3, 7, 8, 9])]), (90, [(2, [0, 1, 7, 8])]), (91, [(2, [0, 1, 7, 8])]), (93, [(3, [0, 1, 2, 7, 8]), (2000010, [0, 1, 2, 7, 8, 9, 999999])]), (95, [(4, [0, 1, 2, 7])]), (96, [(5, [0, 1, 5, 6]), (10, [0, 1, 5, 6, 7, 8, 9]), (17, [0, 1, 5, 6, 7, 10, 11, 12, 13]), (23, [0, 1, 5, 6, 7, 10, 11, 15]), (2000021, [0, 1, 5, 6, 7, 10, 11, 12, 14, 999999])]), (97, [(2, [0, 6])]), (98, [(3, [0, 5, 6])]), (99, [(2, [1, 11]), (6, [1, 6, 7, 11, 15, 16, 17])]), (105, [(4, [0, 1, 21, 22]), (9, [0, 1, 7, 8, 9, 10]), (2000006, [0, 1, 7, 8, 21, 22, 999999]), (2000012, [0, 1, 7, 8, 9, 10, 999999])]), (107, [(2, [0, 7, 8, 9])]), (108, [(4, [1, 2, 15, 16, 17])]), (109, [(4, [1, 2, 15, 16, 17])])]
noncomputable def kp := Wi kl
structure Lv where
 Av : Int → LL → LL → LL → Option Bool
 Dt : Option Bool
 Br : Int → LL → LL → Option (LL × LL × LL × Int × Int × Int × LL × LL)
 C2 : Int → LL → LL → Option (Int × Int × Int × LL × LL)
 Ah : Int → Int → Int → LL → LL → Int → LL → LL → Option (Int × Int × Int × LL × LL × Int × Int)
 Cq : Int → Int → Int → LL → LL → Int → Int → Int → Int → Option (Int × Int × Int × LL × LL)
 Ar : Int → LL → LL → Option LL
 Bh : Int → BA → BA → BA → LL → LL → Option LL
 B3 : LL → LL → LL → Int → Int → Int → LL → LL → Int → LL → LL → Option Int
 Bd : Int → LL → LL → Int → LL → LL → Option Bool
 Bl : Int → BA → BA → BA → LL → LL → Int → BA → BA → BA → LL → LL → Option Bool
 B4 : LL → LL → LL → Int → Int → Int → LL → LL → Int → BA → BA → LL → BA → Bool → Bool → BA → Bool → Bool → BA → Option (Bool × Bool × BA)
 Ce : LL → LL → LL → Int → Int → Int → LL → LL → Option Int
 Ao : LL → LL → LL → Int → Int → Int → LL → LL → Int → BA → BA → LL → BA → Bool → Bool → BA → Bool → Bool → BA → LL → Int → Option (LL × LL × LL × Int × Int × Int × LL × LL × Int × BA × BA × LL × BA × Bool × Bool × BA × Bool × Bool × BA × LL)
 Bs : LL → LL → LL → Int → Int → Int → LL → LL → Int → Int → Int → LL → LL → Int → BA → BA → LL → BA → LL → Option LL
 C8 : LL → LL → LL → Int → Int → Int → LL → LL → Int → BA → BA → LL → BA → LL → Int → BA → BA → BA → LL → LL → Option (Bool × LL × LL × LL × Int × Int × Int × LL × LL × Int × BA × BA × LL × BA × LL)
 B9 : LL → LL → LL → Int → Int → Int → LL → LL → Int → BA → BA → LL → BA → LL → BA → BA → Option (BA × Bool × LL × LL × LL × Int × Int × Int × LL × LL × Int × BA × BA × LL × BA × LL)
 Cv : LL → LL → LL → LL → Int → Int → Int → LL → LL → Int → BA → BA → LL → BA → LL → Option Bool
 Cw : LL → LL → LL → LL → Int → Int → Int → LL → LL → Int → BA → BA → LL → BA → LL → Option Bool
 Cx : LL → LL → LL → LL → Int → Int → Int → LL → LL → Int → BA → BA → LL → BA → LL → Option Bool
 Cg : LL → LL → LL → LL → Int → Int → Int → LL → LL → Int → BA → BA → LL → BA → LL → Option Int
 Ch : LL → LL → LL → LL → Int → Int → Int → LL → LL → Int → BA → BA → LL → BA → LL → Option Int
 Ci : LL → LL → LL → LL → Int → Int → Int → LL → LL → Int → BA → BA → LL → BA → LL → Option Int
 Dw : LL → LL → LL → Int → Int → Int → LL → LL → Int → BA → BA → LL → BA → LL → Int → BA → BA → BA → LL → LL → Option Bool
 C9 : LL → LL → LL → Int → Int → Int → LL → LL → Int → BA → BA → LL → BA → LL → Int → BA → BA → BA → LL → LL → Option Bool
 Dn : LL → LL → LL → Int → Int → Int → LL → LL → Int → BA → BA → LL → BA → LL → Int → LL → LL → Option Bool
 Ca : LL → LL → LL → Int → Int → Int → LL → LL → Int → BA → BA → LL → BA → LL → BA → BA → Option (BA × Bool)
 Dm : LL → LL → LL → Int → Int → Int → LL → LL → Int → LL → LL → Option Int
 Cj : LL → Int → LL → LL → Option Int
 Dv : Int → LL → LL → Int → LL → LL → Option Bool
 C5 : Int → LL → LL → Int → LL → LL → Option Bool
 B7 : LL → LL → Option Bool
 At : LL → LL → LL → Int → Int → Int → LL → LL → LL → Option LL
 Dd : LL → LL → LL → Int → Int → Int → LL → LL → Int → BA → BA → LL → BA → Bool → Bool → BA → Bool → Bool → BA → LL → Int → Int → Int → Int → Int → LL → Option (Bool × LL × LL × LL × Int × Int × Int × LL × LL × Int × BA × BA × LL × BA × Bool × Bool × BA × Bool × Bool × BA × LL)
 B6 : LL → LL → Option Bool
 Dr : LL → Option Bool
 Dc : Bool → Bool → BA → Int → Option Bool
 Dl : Int → BA → BA → BA → LL → LL → Int → BA → BA → BA → LL → LL → Option Bool
 A9 : LL → Option Bool
 Dq : Int → BA → BA → LL → BA → Option Bool
 Df : BA → BA → Option Bool
 C3 : BA → Option Bool
 B1 : BA → Option Bool
 Bv : BA → Option (LL × Int × Int)
 Db : Int → Option Bool
 An : BA → Int → Option (Int × Int × Int)
 B0 : Int → LL → Option Bool
 Do : Option (Int × Int × Int × Int × Int × Int × Int × Int × Int × Int × Int × Int)
 Bp : LL → Option LL
 B5 : LL → Option Int
 Bi : BA → Option Bool
 Dp : Int → Int → Option (Int × Int)
 Dh : Int → Option Bool
 Dg : Int → Option Bool
 Co : LL → LL → LL → Int → Int → Int → LL → LL → Int → Int → Int → LL → LL → Int → BA → BA → LL → BA → Bool → Bool → BA → LL → Option LL
 Cf : LL → Option Bool
 Da : Int → Option Bool
 Dj : Int → LL → LL → Option Bool
 Du : Int → LL → LL → Option Int
 Bg : Int → LL → LL → Int → Option Int
 Bm : Int → BA → BA → BA → LL → LL → Int → Option Int
 Bb : Int → LL → LL → Int → Option Bool
 Aj : Int → BA → BA → BA → LL → LL → Int → Option Bool
 Dk : BA → BA → Option Bool
 Bf : BA → Option Bool
 Bx : BA → Option Bool
 Ba : BA → Option (LL × Int × Int)
 Cu : Int → Option Bool
 Bc : BA → Int → Option (Int × Int × Int)
 Cp : Int → Option LL
 Ag : BA → Int → Option Bool
 Ap : BA → Int → Int → Option Int
 Bj : LL → Option Bool
 C0 : Int → Option Bool
 C1 : Int → Option Bool
 Bt : BA → Int → LL → Option Bool
 Cz : Int → Option Bool
 Di : LL → Option Bool
 B8 : BA → Int → BA → Option Int
 A5 : LL → Option Int
 A6 : Int → BA → BA → LL → BA → Option Bool
 De : BA → BA → Option Bool
 Bo : LL → Option (LL × LL)
 Cd : LL → LL → LL → Int → Int → Int → LL → LL → Bool → Bool → BA → Option Bool
 Cc : LL → LL → LL → Int → Int → Int → LL → LL → Option Int
 Bn : LL → LL → Int → LL → LL → Int → Option LL
 A8 : LL → LL → LL → Int → Int → Int → LL → LL → Int → BA → BA → BA → LL → LL → Int → BA → BA → LL → BA → LL → Option Bool
 Ab : LL → LL → Int → LL → LL → LL → Option LL
 Cm : LL → LL → Int → Option Int
 Bz : LL → Int → Option Bool
 Cn : LL → LL → Int → Option Int
 A7 : LL → LL → Int → BA → BA → BA → LL → LL → Int → Option Bool
 By : LL → LL → Int → Option Int
 Bu : LL → Int → Option Int
abbrev Av_k : List Sk := [.agg 3, .one]
abbrev Av_c : List Pc := [.i .i64, .r 25, .r 66, .r 30]
abbrev Av_t : List Pc := [.b]
noncomputable def Av_d := dr (.t (.one false)) [] Av_t
noncomputable def Av_r := er (.t (.one false)) [] Av_t
theorem Av_dr {R : Res} {r : Bool} (h : Av_d R = some r) : R = Av_r r := Ad (.t (.one false)) [] Av_t R r h
noncomputable def Av_o (L : Lv) {Ω : Type} (f : FuncId) (l : List Arg) (K : Res → Option Ω) (next : Option Ω) : Option Ω := Au 6 (da Av_k Av_c) (unc Av_c L.Av) Av_r f l K next
abbrev Dt_k : List Sk := []
abbrev Dt_c : List Pc := []
abbrev Dt_t : List Pc := [.b]
noncomputable def Dt_d := dr (.t (.one false)) [] Dt_t
noncomputable def Dt_r := er (.t (.one false)) [] Dt_t
noncomputable def Dt_o (L : Lv) {Ω : Type} (f : FuncId) (l : List Arg) (K : Res → Option Ω) (next : Option Ω) : Option Ω := Au 8 (da Dt_k Dt_c) (unc Dt_c L.Dt) Dt_r f l K next
abbrev Br_k : List Sk := [.agg 3]
abbrev Br_c : List Pc := [.i .i64, .r 25, .r 66]
abbrev Br_t : List Pc := [.r 25, .r 39, .r 3, .i .i64, .i .i64, .i .i64, .r 83, .r 66]
noncomputable def Br_d := dr (.t (.agg [true, true, true, false, false, false, false, false])) [] Br_t
noncomputable def Br_r := er (.t (.agg [true, true, true, false, false, false, false, false])) [] Br_t
noncomputable def Br_o (L : Lv) {Ω : Type} (f : FuncId) (l : List Arg) (K : Res → Option Ω) (next : Option Ω) : Option Ω := Au 11 (da Br_k Br_c) (unc Br_c L.Br) Br_r f l K next
abbrev C2_k : List Sk := [.agg 3]
abbrev C2_c : List Pc := [.i .i64, .r 25, .r 66]
abbrev C2_t : List Pc := [.i .i64, .i .i64, .i .i64, .r 83, .r 66]
noncomputable def C2_d := dr (.t (.agg [false, false, false, false, false])) [] C2_t
noncomputable def C2_r := er (.t (.agg [false, false, false, false, false])) [] C2_t
noncomputable def C2_o (L : Lv) {Ω : Type} (f : FuncId) (l : List Arg) (K : Res → Option Ω) (next : Option Ω) : Option Ω := Au 31 (da C2_k C2_c) (unc C2_c L.C2) C2_r f l K next
abbrev Ah_k : List Sk := [.agg 5, .agg 3]
abbrev Ah_c : List Pc := [.i .i64, .i .i64, .i .i64, .r 83, .r 66, .i .i64, .r 25, .r 66]
abbrev Ah_t : List Pc := [.i .i64, .i .i64, .i .i64, .r 83, .r 66, .i .i64, .i .i64]
noncomputable def Ah_d := dr (.t (.agg [false, false, false, false, false, false, false])) [] Ah_t
noncomputable def Ah_r := er (.t (.agg [false, false, false, false, false, false, false])) [] Ah_t
noncomputable def Ah_o (L : Lv) {Ω : Type} (f : FuncId) (l : List Arg) (K : Res → Option Ω) (next : Option Ω) : Option Ω := Au 52 (da Ah_k Ah_c) (unc Ah_c L.Ah) Ah_r f l K next
abbrev Cq_k : List Sk := [.agg 5, .one, .one, .one, .one]
abbrev Cq_c : List Pc := [.i .i64, .i .i64, .i .i64, .r 83, .r 66, .i .i64, .i .i64, .i .i64, .i .i64]
abbrev Cq_t : List Pc := [.i .i64, .i .i64, .i .i64, .r 83, .r 66]
noncomputable def Cq_d := dr (.t (.agg [false, false, false, true, false])) [] Cq_t
noncomputable def Cq_r := er (.t (.agg [false, false, false, true, false])) [] Cq_t
noncomputable def Cq_o (L : Lv) {Ω : Type} (f : FuncId) (l : List Arg) (K : Res → Option Ω) (next : Option Ω) : Option Ω := Au 69 (da Cq_k Cq_c) (unc Cq_c L.Cq) Cq_r f l K next
abbrev Ar_k : List Sk := [.agg 3]
abbrev Ar_c : List Pc := [.i .i64, .r 25, .r 66]
abbrev Ar_t : List Pc := [.r 25]
noncomputable def Ar_d := dr (.t (.one true)) [] Ar_t
noncomputable def Ar_r := er (.t (.one true)) [] Ar_t
noncomputable def Ar_o (L : Lv) {Ω : Type} (f : FuncId) (l : List Arg) (K : Res → Option Ω) (next : Option Ω) : Option Ω := Au 32 (da Ar_k Ar_c) (unc Ar_c L.Ar) Ar_r f l K next
abbrev Bh_k : List Sk := [.agg 6]
abbrev Bh_c : List Pc := [.i .i64, .s, .s, .s, .r 66, .r 25]
abbrev Bh_t : List Pc := [.r 25]
noncomputable def Bh_d := dr (.t (.one true)) [] Bh_t
noncomputable def Bh_r := er (.t (.one true)) [] Bh_t
noncomputable def Bh_o (L : Lv) {Ω : Type} (f : FuncId) (l : List Arg) (K : Res → Option Ω) (next : Option Ω) : Option Ω := Au 53 (da Bh_k Bh_c) (unc Bh_c L.Bh) Bh_r f l K next
abbrev B3_k : List Sk := [.agg 8, .agg 3]
abbrev B3_c : List Pc := [.r 25, .r 39, .r 3, .i .i64, .i .i64, .i .i64, .r 83, .r 66, .i .i64, .r 25, .r 66]
abbrev B3_t : List Pc := [.i .i64]
noncomputable def B3_d := dr (.t (.one false)) [] B3_t
noncomputable def B3_r := er (.t (.one false)) [] B3_t
noncomputable def B3_o (L : Lv) {Ω : Type} (f : FuncId) (l : List Arg) (K : Res → Option Ω) (next : Option Ω) : Option Ω := Au 33 (da B3_k B3_c) (unc B3_c L.B3) B3_r f l K next
abbrev Bd_k : List Sk := [.agg 3, .agg 3]
abbrev Bd_c : List Pc := [.i .i64, .r 25, .r 66, .i .i64, .r 25, .r 66]
abbrev Bd_t : List Pc := [.b]
noncomputable def Bd_d := dr (.t (.one false)) [] Bd_t
noncomputable def Bd_r := er (.t (.one false)) [] Bd_t
noncomputable def Bd_o (L : Lv) {Ω : Type} (f : FuncId) (l : List Arg) (K : Res → Option Ω) (next : Option Ω) : Option Ω := Au 54 (da Bd_k Bd_c) (unc Bd_c L.Bd) Bd_r f l K next
abbrev Bl_k : List Sk := [.agg 6, .agg 6]
abbrev Bl_c : List Pc := [.i .i64, .s, .s, .s, .r 66, .r 25, .i .i64, .s, .s, .s, .r 66, .r 25]
abbrev Bl_t : List Pc := [.b]
noncomputable def Bl_d := dr (.t (.one false)) [] Bl_t
noncomputable def Bl_r := er (.t (.one false)) [] Bl_t
noncomputable def Bl_o (L : Lv) {Ω : Type} (f : FuncId) (l : List Arg) (K : Res → Option Ω) (next : Option Ω) : Option Ω := Au 70 (da Bl_k Bl_c) (unc Bl_c L.Bl) Bl_r f l K next
abbrev B4_k : List Sk := [.agg 8, .agg 5, .agg 3, .agg 3]
abbrev B4_c : List Pc := [.r 25, .r 39, .r 3, .i .i64, .i .i64, .i .i64, .r 83, .r 66, .i .i64, .s, .s, .r 86, .s, .b, .b, .s, .b, .b, .s]
abbrev B4_t : List Pc := [.b, .b, .s]
noncomputable def B4_d := dr (.t (.agg [false, false, false])) [] B4_t
noncomputable def B4_r := er (.t (.agg [false, false, false])) [] B4_t
noncomputable def B4_o (L : Lv) {Ω : Type} (f : FuncId) (l : List Arg) (K : Res → Option Ω) (next : Option Ω) : Option Ω := Au 13 (da B4_k B4_c) (unc B4_c L.B4) B4_r f l K next
abbrev Ce_k : List Sk := [.agg 8]
abbrev Ce_c : List Pc := [.r 25, .r 39, .r 3, .i .i64, .i .i64, .i .i64, .r 83, .r 66]
abbrev Ce_t : List Pc := [.i .i64]
noncomputable def Ce_d := dr (.t (.one false)) [] Ce_t
noncomputable def Ce_r := er (.t (.one false)) [] Ce_t
noncomputable def Ce_o (L : Lv) {Ω : Type} (f : FuncId) (l : List Arg) (K : Res → Option Ω) (next : Option Ω) : Option Ω := Au 35 (da Ce_k Ce_c) (unc Ce_c L.Ce) Ce_r f l K next
abbrev Ao_k : List Sk := [.ref 79 [false, false, false, false, false, false, false, false, false, false, false, false, false, false, false, false, false, false, false, true] 0, .one]
abbrev Ao_c : List Pc := [.r 25, .r 39, .r 3, .i .i64, .i .i64, .i .i64, .r 83, .r 66, .i .i64, .s, .s, .r 86, .s, .b, .b, .s, .b, .b, .s, .r 5, .i .i64]
abbrev Ao_t : List Pc := [.r 25, .r 39, .r 3, .i .i64, .i .i64, .i .i64, .r 83, .r 66, .i .i64, .s, .s, .r 86, .s, .b, .b, .s, .b, .b, .s, .r 5]
noncomputable def Ao_d := dr (.tup []) [[false, false, false, false, false, false, false, false, false, false, false, false, false, false, false, false, false, false, false, true]] Ao_t
noncomputable def Ao_r := er (.tup []) [[false, false, false, false, false, false, false, false, false, false, false, false, false, false, false, false, false, false, false, true]] Ao_t
noncomputable def Ao_o (L : Lv) {Ω : Type} (f : FuncId) (l : List Arg) (K : Res → Option Ω) (next : Option Ω) : Option Ω := Au 36 (da Ao_k Ao_c) (unc Ao_c L.Ao) Ao_r f l K next
abbrev Bs_k : List Sk := [.agg 8, .agg 5, .agg 5, .one]
abbrev Bs_c : List Pc := [.r 25, .r 39, .r 3, .i .i64, .i .i64, .i .i64, .r 83, .r 66, .i .i64, .i .i64, .i .i64, .r 83, .r 66, .i .i64, .s, .s, .r 86, .s, .r 5]
abbrev Bs_t : List Pc := [.r 4]
noncomputable def Bs_d := dr (.t (.one true)) [] Bs_t
noncomputable def Bs_r := er (.t (.one true)) [] Bs_t
noncomputable def Bs_o (L : Lv) {Ω : Type} (f : FuncId) (l : List Arg) (K : Res → Option Ω) (next : Option Ω) : Option Ω := Au 43 (da Bs_k Bs_c) (unc Bs_c L.Bs) Bs_r f l K next
abbrev C8_k : List Sk := [.ref 112 [false, false, false, false, false, false, false, false, false, false, false, false, false, false] 0, .agg 6]
abbrev C8_c : List Pc := [.r 25, .r 39, .r 3, .i .i64, .i .i64, .i .i64, .r 83, .r 66, .i .i64, .s, .s, .r 86, .s, .r 5, .i .i64, .s, .s, .s, .r 66, .r 25]
abbrev C8_t : List Pc := [.b, .r 25, .r 39, .r 3, .i .i64, .i .i64, .i .i64, .r 83, .r 66, .i .i64, .s, .s, .r 86, .s, .r 5]
noncomputable def C8_d := dr (.t (.one false)) [[false, false, false, false, false, false, false, false, false, false, false, false, false, false]] C8_t
noncomputable def C8_r := er (.t (.one false)) [[false, false, false, false, false, false, false, false, false, false, false, false, false, false]] C8_t
noncomputable def C8_o (L : Lv) {Ω : Type} (f : FuncId) (l : List Arg) (K : Res → Option Ω) (next : Option Ω) : Option Ω := Au 58 (da C8_k C8_c) (unc C8_c L.C8) C8_r f l K next
abbrev B9_k : List Sk := [.ref 112 [false, false, false, false, false, false, false, false, false, false, false, false, false, false] 0, .agg 2]
abbrev B9_c : List Pc := [.r 25, .r 39, .r 3, .i .i64, .i .i64, .i .i64, .r 83, .r 66, .i .i64, .s, .s, .r 86, .s, .r 5, .s, .s]
abbrev B9_t : List Pc := [.s, .b, .r 25, .r 39, .r 3, .i .i64, .i .i64, .i .i64, .r 83, .r 66, .i .i64, .s, .s, .r 86, .s, .r 5]
noncomputable def B9_d := dr (.tup [.one false, .one false]) [[false, false, false, false, false, false, false, false, false, false, false, false, false, false]] B9_t
noncomputable def B9_r := er (.tup [.one false, .one false]) [[false, false, false, false, false, false, false, false, false, false, false, false, false, false]] B9_t
noncomputable def B9_o (L : Lv) {Ω : Type} (f : FuncId) (l : List Arg) (K : Res → Option Ω) (next : Option Ω) : Option Ω := Au 73 (da B9_k B9_c) (unc B9_c L.B9) B9_r f l K next
abbrev Cv_k : List Sk := [.one, .fnr 75 true 112 14 0]
abbrev Cv_c : List Pc := [.r 66, .r 25, .r 39, .r 3, .i .i64, .i .i64, .i .i64, .r 83, .r 66, .i .i64, .s, .s, .r 86, .s, .r 5]
abbrev Cv_t : List Pc := [.b]
noncomputable def Cv_d := dr (.t (.one false)) [] Cv_t
noncomputable def Cv_r := er (.t (.one false)) [] Cv_t
noncomputable def Cv_o (L : Lv) {Ω : Type} (f : FuncId) (l : List Arg) (K : Res → Option Ω) (next : Option Ω) : Option Ω := Au 74 (da Cv_k Cv_c) (unc Cv_c L.Cv) Cv_r f l K next
abbrev Cw_k : List Sk := [.one, .fnr 58 true 112 14 0]
abbrev Cw_c : List Pc := [.r 66, .r 25, .r 39, .r 3, .i .i64, .i .i64, .i .i64, .r 83, .r 66, .i .i64, .s, .s, .r 86, .s, .r 5]
abbrev Cw_t : List Pc := [.b]
noncomputable def Cw_d := dr (.t (.one false)) [] Cw_t
noncomputable def Cw_r := er (.t (.one false)) [] Cw_t
noncomputable def Cw_o (L : Lv) {Ω : Type} (f : FuncId) (l : List Arg) (K : Res → Option Ω) (next : Option Ω) : Option Ω := Au 74 (da Cw_k Cw_c) (unc Cw_c L.Cw) Cw_r f l K next
abbrev Cx_k : List Sk := [.one, .fnr 77 true 112 14 0]
abbrev Cx_c : List Pc := [.r 25, .r 25, .r 39, .r 3, .i .i64, .i .i64, .i .i64, .r 83, .r 66, .i .i64, .s, .s, .r 86, .s, .r 5]
abbrev Cx_t : List Pc := [.b]
noncomputable def Cx_d := dr (.t (.one false)) [] Cx_t
noncomputable def Cx_r := er (.t (.one false)) [] Cx_t
noncomputable def Cx_o (L : Lv) {Ω : Type} (f : FuncId) (l : List Arg) (K : Res → Option Ω) (next : Option Ω) : Option Ω := Au 76 (da Cx_k Cx_c) (unc Cx_c L.Cx) Cx_r f l K next
abbrev Cg_k : List Sk := [.one, .fnr 75 true 112 14 0]
abbrev Cg_c : List Pc := [.r 66, .r 25, .r 39, .r 3, .i .i64, .i .i64, .i .i64, .r 83, .r 66, .i .i64, .s, .s, .r 86, .s, .r 5]
abbrev Cg_t : List Pc := [.i .i64]
noncomputable def Cg_d := dr (.t (.one false)) [] Cg_t
noncomputable def Cg_r := er (.t (.one false)) [] Cg_t
noncomputable def Cg_o (L : Lv) {Ω : Type} (f : FuncId) (l : List Arg) (K : Res → Option Ω) (next : Option Ω) : Option Ω := Au 90 (da Cg_k Cg_c) (unc Cg_c L.Cg) Cg_r f l K next
abbrev Ch_k : List Sk := [.one, .fnr 58 true 112 14 0]
abbrev Ch_c : List Pc := [.r 66, .r 25, .r 39, .r 3, .i .i64, .i .i64, .i .i64, .r 83, .r 66, .i .i64, .s, .s, .r 86, .s, .r 5]
abbrev Ch_t : List Pc := [.i .i64]
noncomputable def Ch_d := dr (.t (.one false)) [] Ch_t
noncomputable def Ch_r := er (.t (.one false)) [] Ch_t
noncomputable def Ch_o (L : Lv) {Ω : Type} (f : FuncId) (l : List Arg) (K : Res → Option Ω) (next : Option Ω) : Option Ω := Au 90 (da Ch_k Ch_c) (unc Ch_c L.Ch) Ch_r f l K next
abbrev Ci_k : List Sk := [.one, .fnr 77 true 112 14 0]
abbrev Ci_c : List Pc := [.r 25, .r 25, .r 39, .r 3, .i .i64, .i .i64, .i .i64, .r 83, .r 66, .i .i64, .s, .s, .r 86, .s, .r 5]
abbrev Ci_t : List Pc := [.i .i64]
noncomputable def Ci_d := dr (.t (.one false)) [] Ci_t
noncomputable def Ci_r := er (.t (.one false)) [] Ci_t
noncomputable def Ci_o (L : Lv) {Ω : Type} (f : FuncId) (l : List Arg) (K : Res → Option Ω) (next : Option Ω) : Option Ω := Au 91 (da Ci_k Ci_c) (unc Ci_c L.Ci) Ci_r f l K next
abbrev Dw_k : List Sk := [.rop 112 14 0, .agg 6]
abbrev Dw_c : List Pc := [.r 25, .r 39, .r 3, .i .i64, .i .i64, .i .i64, .r 83, .r 66, .i .i64, .s, .s, .r 86, .s, .r 5, .i .i64, .s, .s, .s, .r 66, .r 25]
abbrev Dw_t : List Pc := [.b]
noncomputable def Dw_d := dr (.t (.one false)) [] Dw_t
noncomputable def Dw_r := er (.t (.one false)) [] Dw_t
noncomputable def Dw_o (L : Lv) {Ω : Type} (f : FuncId) (l : List Arg) (K : Res → Option Ω) (next : Option Ω) : Option Ω := Au 75 (da Dw_k Dw_c) (unc Dw_c L.Dw) Dw_r f l K next
abbrev C9_k : List Sk := [.rop 112 14 0, .agg 6]
abbrev C9_c : List Pc := [.r 25, .r 39, .r 3, .i .i64, .i .i64, .i .i64, .r 83, .r 66, .i .i64, .s, .s, .r 86, .s, .r 5, .i .i64, .s, .s, .s, .r 66, .r 25]
abbrev C9_t : List Pc := [.b]
noncomputable def C9_d := dr (.t (.one false)) [] C9_t
noncomputable def C9_r := er (.t (.one false)) [] C9_t
noncomputable def C9_o (L : Lv) {Ω : Type} (f : FuncId) (l : List Arg) (K : Res → Option Ω) (next : Option Ω) : Option Ω := Au 58 (da C9_k C9_c) (unc C9_c L.C9) C9_r f l K next
abbrev Dn_k : List Sk := [.rop 112 14 0, .agg 3]
abbrev Dn_c : List Pc := [.r 25, .r 39, .r 3, .i .i64, .i .i64, .i .i64, .r 83, .r 66, .i .i64, .s, .s, .r 86, .s, .r 5, .i .i64, .r 25, .r 66]
abbrev Dn_t : List Pc := [.b]
noncomputable def Dn_d := dr (.t (.one false)) [] Dn_t
noncomputable def Dn_r := er (.t (.one false)) [] Dn_t
noncomputable def Dn_o (L : Lv) {Ω : Type} (f : FuncId) (l : List Arg) (K : Res → Option Ω) (next : Option Ω) : Option Ω := Au 77 (da Dn_k Dn_c) (unc Dn_c L.Dn) Dn_r f l K next
abbrev Ca_k : List Sk := [.rop 112 14 0, .agg 2]
abbrev Ca_c : List Pc := [.r 25, .r 39, .r 3, .i .i64, .i .i64, .i .i64, .r 83, .r 66, .i .i64, .s, .s, .r 86, .s, .r 5, .s, .s]
abbrev Ca_t : List Pc := [.s, .b]
noncomputable def Ca_d := dr (.tup [.one false, .one false]) [] Ca_t
noncomputable def Ca_r := er (.tup [.one false, .one false]) [] Ca_t
noncomputable def Ca_o (L : Lv) {Ω : Type} (f : FuncId) (l : List Arg) (K : Res → Option Ω) (next : Option Ω) : Option Ω := Au 73 (da Ca_k Ca_c) (unc Ca_c L.Ca) Ca_r f l K next
abbrev Dm_k : List Sk := [.agg 8, .agg 3]
abbrev Dm_c : List Pc := [.r 25, .r 39, .r 3, .i .i64, .i .i64, .i .i64, .r 83, .r 66, .i .i64, .r 25, .r 66]
abbrev Dm_t : List Pc := [.i .i64]
noncomputable def Dm_d := dr (.t (.one false)) [] Dm_t
noncomputable def Dm_r := er (.t (.one false)) [] Dm_t
noncomputable def Dm_o (L : Lv) {Ω : Type} (f : FuncId) (l : List Arg) (K : Res → Option Ω) (next : Option Ω) : Option Ω := Au 92 (da Dm_k Dm_c) (unc Dm_c L.Dm) Dm_r f l K next
abbrev Cj_k : List Sk := [.one, .fnr 101 false 25 3 0]
abbrev Cj_c : List Pc := [.r 25, .i .i64, .r 25, .r 66]
abbrev Cj_t : List Pc := [.i .i64]
noncomputable def Cj_d := dr (.t (.one false)) [] Cj_t
noncomputable def Cj_r := er (.t (.one false)) [] Cj_t
noncomputable def Cj_o (L : Lv) {Ω : Type} (f : FuncId) (l : List Arg) (K : Res → Option Ω) (next : Option Ω) : Option Ω := Au 91 (da Cj_k Cj_c) (unc Cj_c L.Cj) Cj_r f l K next
abbrev Dv_k : List Sk := [.agg 3, .rop 25 3 0]
abbrev Dv_c : List Pc := [.i .i64, .r 25, .r 66, .i .i64, .r 25, .r 66]
abbrev Dv_t : List Pc := [.b]
noncomputable def Dv_d := dr (.t (.one false)) [] Dv_t
noncomputable def Dv_r := er (.t (.one false)) [] Dv_t
noncomputable def Dv_o (L : Lv) {Ω : Type} (f : FuncId) (l : List Arg) (K : Res → Option Ω) (next : Option Ω) : Option Ω := Au 101 (da Dv_k Dv_c) (unc Dv_c L.Dv) Dv_r f l K next
abbrev C5_k : List Sk := [.agg 3, .agg 3]
abbrev C5_c : List Pc := [.i .i64, .r 25, .r 66, .i .i64, .r 25, .r 66]
abbrev C5_t : List Pc := [.b]
noncomputable def C5_d := dr (.t (.one false)) [] C5_t
noncomputable def C5_r := er (.t (.one false)) [] C5_t
noncomputable def C5_o (L : Lv) {Ω : Type} (f : FuncId) (l : List Arg) (K : Res → Option Ω) (next : Option Ω) : Option Ω := Au 102 (da C5_k C5_c) (unc C5_c L.C5) C5_r f l K next
abbrev B7_k : List Sk := [.one, .one, .fn 102]
abbrev B7_c : List Pc := [.r 25, .r 25]
abbrev B7_t : List Pc := [.b]
noncomputable def B7_d := dr (.t (.one false)) [] B7_t
noncomputable def B7_r := er (.t (.one false)) [] B7_t
noncomputable def B7_o (L : Lv) {Ω : Type} (f : FuncId) (l : List Arg) (K : Res → Option Ω) (next : Option Ω) : Option Ω := Au 108 (da B7_k B7_c) (unc B7_c L.B7) B7_r f l K next
abbrev At_k : List Sk := [.agg 8, .one]
abbrev At_c : List Pc := [.r 25, .r 39, .r 3, .i .i64, .i .i64, .i .i64, .r 83, .r 66, .r 30]
abbrev At_t : List Pc := [.r 44]
noncomputable def At_d := dr (.t (.one true)) [] At_t
noncomputable def At_r := er (.t (.one true)) [] At_t
noncomputable def At_o (L : Lv) {Ω : Type} (f : FuncId) (l : List Arg) (K : Res → Option Ω) (next : Option Ω) : Option Ω := Au 16 (da At_k At_c) (unc At_c L.At) At_r f l K next
abbrev Dd_k : List Sk := [.ref 79 [false, false, false, false, false, false, false, false, false, false, false, false, false, false, false, false, false, false, false, true] 0, .one, .agg 4, .one]
abbrev Dd_c : List Pc := [.r 25, .r 39, .r 3, .i .i64, .i .i64, .i .i64, .r 83, .r 66, .i .i64, .s, .s, .r 86, .s, .b, .b, .s, .b, .b, .s, .r 5, .i .i64, .i .i64, .i .i64, .i .i64, .i .i64, .r 4]
abbrev Dd_t : List Pc := [.b, .r 25, .r 39, .r 3, .i .i64, .i .i64, .i .i64, .r 83, .r 66, .i .i64, .s, .s, .r 86, .s, .b, .b, .s, .b, .b, .s, .r 5]
noncomputable def Dd_d := dr (.t (.one false)) [[false, false, false, false, false, false, false, false, false, false, false, false, false, false, false, false, false, false, false, true]] Dd_t
noncomputable def Dd_r := er (.t (.one false)) [[false, false, false, false, false, false, false, false, false, false, false, false, false, false, false, false, false, false, false, true]] Dd_t
noncomputable def Dd_o (L : Lv) {Ω : Type} (f : FuncId) (l : List Arg) (K : Res → Option Ω) (next : Option Ω) : Option Ω := Au 55 (da Dd_k Dd_c) (unc Dd_c L.Dd) Dd_r f l K next
abbrev B6_k : List Sk := [.one, .one, .fn 110]
abbrev B6_c : List Pc := [.r 66, .r 66]
abbrev B6_t : List Pc := [.b]
noncomputable def B6_d := dr (.t (.one false)) [] B6_t
noncomputable def B6_r := er (.t (.one false)) [] B6_t
noncomputable def B6_o (L : Lv) {Ω : Type} (f : FuncId) (l : List Arg) (K : Res → Option Ω) (next : Option Ω) : Option Ω := Au 109 (da B6_k B6_c) (unc B6_c L.B6) B6_r f l K next
abbrev Dr_k : List Sk := [.one]
abbrev Dr_c : List Pc := [.r 30]
abbrev Dr_t : List Pc := [.b]
noncomputable def Dr_d := dr (.t (.one false)) [] Dr_t
noncomputable def Dr_r := er (.t (.one false)) [] Dr_t
noncomputable def Dr_o (L : Lv) {Ω : Type} (f : FuncId) (l : List Arg) (K : Res → Option Ω) (next : Option Ω) : Option Ω := Au 39 (da Dr_k Dr_c) (unc Dr_c L.Dr) Dr_r f l K next
abbrev Dc_k : List Sk := [.agg 3, .one]
abbrev Dc_c : List Pc := [.b, .b, .s, .i .i64]
abbrev Dc_t : List Pc := [.b]
noncomputable def Dc_d := dr (.t (.one false)) [] Dc_t
noncomputable def Dc_r := er (.t (.one false)) [] Dc_t
noncomputable def Dc_o (L : Lv) {Ω : Type} (f : FuncId) (l : List Arg) (K : Res → Option Ω) (next : Option Ω) : Option Ω := Au 71 (da Dc_k Dc_c) (unc Dc_c L.Dc) Dc_r f l K next
abbrev Dl_k : List Sk := [.agg 6, .agg 6]
abbrev Dl_c : List Pc := [.i .i64, .s, .s, .s, .r 66, .r 25, .i .i64, .s, .s, .s, .r 66, .r 25]
abbrev Dl_t : List Pc := [.b]
noncomputable def Dl_d := dr (.t (.one false)) [] Dl_t
noncomputable def Dl_r := er (.t (.one false)) [] Dl_t
noncomputable def Dl_o (L : Lv) {Ω : Type} (f : FuncId) (l : List Arg) (K : Res → Option Ω) (next : Option Ω) : Option Ω := Au 110 (da Dl_k Dl_c) (unc Dl_c L.Dl) Dl_r f l K next
abbrev A9_k : List Sk := [.one]
abbrev A9_c : List Pc := [.r 30]
abbrev A9_t : List Pc := [.b]
noncomputable def A9_d := dr (.t (.one false)) [] A9_t
noncomputable def A9_r := er (.t (.one false)) [] A9_t
noncomputable def A9_o (L : Lv) {Ω : Type} (f : FuncId) (l : List Arg) (K : Res → Option Ω) (next : Option Ω) : Option Ω := Au 56 (da A9_k A9_c) (unc A9_c L.A9) A9_r f l K next
abbrev Dq_k : List Sk := [.agg 5]
abbrev Dq_c : List Pc := [.i .i64, .s, .s, .r 86, .s]
abbrev Dq_t : List Pc := [.b]
noncomputable def Dq_d := dr (.t (.one false)) [] Dq_t
noncomputable def Dq_r := er (.t (.one false)) [] Dq_t
noncomputable def Dq_o (L : Lv) {Ω : Type} (f : FuncId) (l : List Arg) (K : Res → Option Ω) (next : Option Ω) : Option Ω := Au 72 (da Dq_k Dq_c) (unc Dq_c L.Dq) Dq_r f l K next
abbrev Df_k : List Sk := [.agg 2]
abbrev Df_c : List Pc := [.s, .s]
abbrev Df_t : List Pc := [.b]
noncomputable def Df_d := dr (.t (.one false)) [] Df_t
noncomputable def Df_r := er (.t (.one false)) [] Df_t
noncomputable def Df_o (L : Lv) {Ω : Type} (f : FuncId) (l : List Arg) (K : Res → Option Ω) (next : Option Ω) : Option Ω := Au 87 (da Df_k Df_c) (unc Df_c L.Df) Df_r f l K next
abbrev C3_k : List Sk := [.one]
abbrev C3_c : List Pc := [.s]
abbrev C3_t : List Pc := [.b]
noncomputable def C3_d := dr (.t (.one false)) [] C3_t
noncomputable def C3_r := er (.t (.one false)) [] C3_t
noncomputable def C3_o (L : Lv) {Ω : Type} (f : FuncId) (l : List Arg) (K : Res → Option Ω) (next : Option Ω) : Option Ω := Au 89 (da C3_k C3_c) (unc C3_c L.C3) C3_r f l K next
abbrev B1_k : List Sk := [.one]
abbrev B1_c : List Pc := [.s]
abbrev B1_t : List Pc := [.b]
noncomputable def B1_d := dr (.t (.one false)) [] B1_t
noncomputable def B1_r := er (.t (.one false)) [] B1_t
noncomputable def B1_o (L : Lv) {Ω : Type} (f : FuncId) (l : List Arg) (K : Res → Option Ω) (next : Option Ω) : Option Ω := Au 97 (da B1_k B1_c) (unc B1_c L.B1) B1_r f l K next
abbrev Bv_k : List Sk := [.one]
abbrev Bv_c : List Pc := [.s]
abbrev Bv_t : List Pc := [.r 21, .i .i64, .i .i64]
noncomputable def Bv_d := dr (.tup [.one true, .one false, .one false]) [] Bv_t
noncomputable def Bv_r := er (.tup [.one true, .one false, .one false]) [] Bv_t
noncomputable def Bv_o (L : Lv) {Ω : Type} (f : FuncId) (l : List Arg) (K : Res → Option Ω) (next : Option Ω) : Option Ω := Au 98 (da Bv_k Bv_c) (unc Bv_c L.Bv) Bv_r f l K next
abbrev Db_k : List Sk := [.one]
abbrev Db_c : List Pc := [.i .i32]
abbrev Db_t : List Pc := [.b]
noncomputable def Db_d := dr (.t (.one false)) [] Db_t
noncomputable def Db_r := er (.t (.one false)) [] Db_t
noncomputable def Db_o (L : Lv) {Ω : Type} (f : FuncId) (l : List Arg) (K : Res → Option Ω) (next : Option Ω) : Option Ω := Au 103 (da Db_k Db_c) (unc Db_c L.Db) Db_r f l K next
abbrev An_k : List Sk := [.one, .one]
abbrev An_c : List Pc := [.s, .i .i64]
abbrev An_t : List Pc := [.i .i32, .i .i64, .i .i64]
noncomputable def An_d := dr (.tup [.one false, .one false, .one false]) [] An_t
noncomputable def An_r := er (.tup [.one false, .one false, .one false]) [] An_t
noncomputable def An_o (L : Lv) {Ω : Type} (f : FuncId) (l : List Arg) (K : Res → Option Ω) (next : Option Ω) : Option Ω := Au 105 (da An_k An_c) (unc An_c L.An) An_r f l K next
abbrev B0_k : List Sk := [.one, .one]
abbrev B0_c : List Pc := [.i .i32, .r 153]
abbrev B0_t : List Pc := [.b]
noncomputable def B0_d := dr (.t (.one false)) [] B0_t
noncomputable def B0_r := er (.t (.one false)) [] B0_t
noncomputable def B0_o (L : Lv) {Ω : Type} (f : FuncId) (l : List Arg) (K : Res → Option Ω) (next : Option Ω) : Option Ω := Au 107 (da B0_k B0_c) (unc B0_c L.B0) B0_r f l K next
abbrev Do_k : List Sk := []
abbrev Do_c : List Pc := []
abbrev Do_t : List Pc := [.i .u8, .i .u8, .i .i32, .i .u8, .i .u8, .i .i32, .i .u8, .i .u8, .i .i32, .i .u8, .i .u8, .i .i32]
noncomputable def Do_d := dr (.t (.agg [false, false, false, false, false, false, false, false, false, false, false, false])) [] Do_t
noncomputable def Do_r := er (.t (.agg [false, false, false, false, false, false, false, false, false, false, false, false])) [] Do_t
noncomputable def Do_o (L : Lv) {Ω : Type} (f : FuncId) (l : List Arg) (K : Res → Option Ω) (next : Option Ω) : Option Ω := Au 111 (da Do_k Do_c) (unc Do_c L.Do) Do_r f l K next
abbrev Bp_k : List Sk := [.one]
abbrev Bp_c : List Pc := [.r 30]
abbrev Bp_t : List Pc := [.r 3]
noncomputable def Bp_d := dr (.t (.one true)) [] Bp_t
noncomputable def Bp_r := er (.t (.one true)) [] Bp_t
noncomputable def Bp_o (L : Lv) {Ω : Type} (f : FuncId) (l : List Arg) (K : Res → Option Ω) (next : Option Ω) : Option Ω := Au 40 (da Bp_k Bp_c) (unc Bp_c L.Bp) Bp_r f l K next
abbrev B5_k : List Sk := [.one]
abbrev B5_c : List Pc := [.r 30]
abbrev B5_t : List Pc := [.i .i64]
noncomputable def B5_d := dr (.t (.one false)) [] B5_t
noncomputable def B5_r := er (.t (.one false)) [] B5_t
noncomputable def B5_o (L : Lv) {Ω : Type} (f : FuncId) (l : List Arg) (K : Res → Option Ω) (next : Option Ω) : Option Ω := Au 57 (da B5_k B5_c) (unc B5_c L.B5) B5_r f l K next
abbrev Bi_k : List Sk := [.one, .cst (C.row 147 [[C.fn (some 100)]])]
abbrev Bi_c : List Pc := [.s]
abbrev Bi_t : List Pc := [.b]
noncomputable def Bi_d := dr (.t (.one false)) [] Bi_t
noncomputable def Bi_r := er (.t (.one false)) [] Bi_t
noncomputable def Bi_o (L : Lv) {Ω : Type} (f : FuncId) (l : List Arg) (K : Res → Option Ω) (next : Option Ω) : Option Ω := Au 99 (da Bi_k Bi_c) (unc Bi_c L.Bi) Bi_r f l K next
abbrev Dp_k : List Sk := [.one, .one]
abbrev Dp_c : List Pc := [.i .i32, .i .i64]
abbrev Dp_t : List Pc := [.i .i32, .i .i32]
noncomputable def Dp_d := dr (.tup [.one false, .one false]) [] Dp_t
noncomputable def Dp_r := er (.tup [.one false, .one false]) [] Dp_t
noncomputable def Dp_o (L : Lv) {Ω : Type} (f : FuncId) (l : List Arg) (K : Res → Option Ω) (next : Option Ω) : Option Ω := Au 112 (da Dp_k Dp_c) (unc Dp_c L.Dp) Dp_r f l K next
abbrev Dh_k : List Sk := [.one]
abbrev Dh_c : List Pc := [.i .i32]
abbrev Dh_t : List Pc := [.b]
noncomputable def Dh_d := dr (.t (.one false)) [] Dh_t
noncomputable def Dh_r := er (.t (.one false)) [] Dh_t
noncomputable def Dh_o (L : Lv) {Ω : Type} (f : FuncId) (l : List Arg) (K : Res → Option Ω) (next : Option Ω) : Option Ω := Au 100 (da Dh_k Dh_c) (unc Dh_c L.Dh) Dh_r f l K next
abbrev Dg_k : List Sk := [.one]
abbrev Dg_c : List Pc := [.i .i32]
abbrev Dg_t : List Pc := [.b]
noncomputable def Dg_d := dr (.t (.one false)) [] Dg_t
noncomputable def Dg_r := er (.t (.one false)) [] Dg_t
noncomputable def Dg_o (L : Lv) {Ω : Type} (f : FuncId) (l : List Arg) (K : Res → Option Ω) (next : Option Ω) : Option Ω := Au 106 (da Dg_k Dg_c) (unc Dg_c L.Dg) Dg_r f l K next
abbrev Co_k : List Sk := [.agg 8, .agg 5, .agg 5, .agg 3, .one]
abbrev Co_c : List Pc := [.r 25, .r 39, .r 3, .i .i64, .i .i64, .i .i64, .r 83, .r 66, .i .i64, .i .i64, .i .i64, .r 83, .r 66, .i .i64, .s, .s, .r 86, .s, .b, .b, .s, .r 4]
abbrev Co_t : List Pc := [.r 4]
noncomputable def Co_d := dr (.t (.one true)) [] Co_t
noncomputable def Co_r := er (.t (.one true)) [] Co_t
noncomputable def Co_o (L : Lv) {Ω : Type} (f : FuncId) (l : List Arg) (K : Res → Option Ω) (next : Option Ω) : Option Ω := Au 20 (da Co_k Co_c) (unc Co_c L.Co) Co_r f l K next
abbrev Cf_k : List Sk := [.one]
abbrev Cf_c : List Pc := [.r 86]
abbrev Cf_t : List Pc := [.b]
noncomputable def Cf_d := dr (.t (.one false)) [] Cf_t
noncomputable def Cf_r := er (.t (.one false)) [] Cf_t
noncomputable def Cf_o (L : Lv) {Ω : Type} (f : FuncId) (l : List Arg) (K : Res → Option Ω) (next : Option Ω) : Option Ω := Au 88 (da Cf_k Cf_c) (unc Cf_c L.Cf) Cf_r f l K next
abbrev Da_k : List Sk := [.one]
abbrev Da_c : List Pc := [.i .i32]
abbrev Da_t : List Pc := [.b]
noncomputable def Da_d := dr (.t (.one false)) [] Da_t
noncomputable def Da_r := er (.t (.one false)) [] Da_t
noncomputable def Da_o (L : Lv) {Ω : Type} (f : FuncId) (l : List Arg) (K : Res → Option Ω) (next : Option Ω) : Option Ω := Au 104 (da Da_k Da_c) (unc Da_c L.Da) Da_r f l K next
abbrev Dj_k : List Sk := [.agg 3]
abbrev Dj_c : List Pc := [.i .i64, .r 25, .r 66]
abbrev Dj_t : List Pc := [.b]
noncomputable def Dj_d := dr (.t (.one false)) [] Dj_t
noncomputable def Dj_r := er (.t (.one false)) [] Dj_t
noncomputable def Dj_o (L : Lv) {Ω : Type} (f : FuncId) (l : List Arg) (K : Res → Option Ω) (next : Option Ω) : Option Ω := Au 9 (da Dj_k Dj_c) (unc Dj_c L.Dj) Dj_r f l K next
abbrev Du_k : List Sk := [.agg 3]
abbrev Du_c : List Pc := [.i .i64, .r 25, .r 66]
abbrev Du_t : List Pc := [.i .i64]
noncomputable def Du_d := dr (.t (.one false)) [] Du_t
noncomputable def Du_r := er (.t (.one false)) [] Du_t
noncomputable def Du_o (L : Lv) {Ω : Type} (f : FuncId) (l : List Arg) (K : Res → Option Ω) (next : Option Ω) : Option Ω := Au 28 (da Du_k Du_c) (unc Du_c L.Du) Du_r f l K next
abbrev Bg_k : List Sk := [.agg 3, .one]
abbrev Bg_c : List Pc := [.i .i64, .r 25, .r 66, .i .i64]
abbrev Bg_t : List Pc := [.i .i64]
noncomputable def Bg_d := dr (.t (.one false)) [] Bg_t
noncomputable def Bg_r := er (.t (.one false)) [] Bg_t
noncomputable def Bg_o (L : Lv) {Ω : Type} (f : FuncId) (l : List Arg) (K : Res → Option Ω) (next : Option Ω) : Option Ω := Au 48 (da Bg_k Bg_c) (unc Bg_c L.Bg) Bg_r f l K next
abbrev Bm_k : List Sk := [.agg 6, .one]
abbrev Bm_c : List Pc := [.i .i64, .s, .s, .s, .r 66, .r 25, .i .i64]
abbrev Bm_t : List Pc := [.i .i64]
noncomputable def Bm_d := dr (.t (.one false)) [] Bm_t
noncomputable def Bm_r := er (.t (.one false)) [] Bm_t
noncomputable def Bm_o (L : Lv) {Ω : Type} (f : FuncId) (l : List Arg) (K : Res → Option Ω) (next : Option Ω) : Option Ω := Au 64 (da Bm_k Bm_c) (unc Bm_c L.Bm) Bm_r f l K next
abbrev Bb_k : List Sk := [.agg 3, .one]
abbrev Bb_c : List Pc := [.i .i64, .r 25, .r 66, .i .i64]
abbrev Bb_t : List Pc := [.b]
noncomputable def Bb_d := dr (.t (.one false)) [] Bb_t
noncomputable def Bb_r := er (.t (.one false)) [] Bb_t
noncomputable def Bb_o (L : Lv) {Ω : Type} (f : FuncId) (l : List Arg) (K : Res → Option Ω) (next : Option Ω) : Option Ω := Au 29 (da Bb_k Bb_c) (unc Bb_c L.Bb) Bb_r f l K next
abbrev Aj_k : List Sk := [.agg 6, .one]
abbrev Aj_c : List Pc := [.i .i64, .s, .s, .s, .r 66, .r 25, .i .i64]
abbrev Aj_t : List Pc := [.b]
noncomputable def Aj_d := dr (.t (.one false)) [] Aj_t
noncomputable def Aj_r := er (.t (.one false)) [] Aj_t
noncomputable def Aj_o (L : Lv) {Ω : Type} (f : FuncId) (l : List Arg) (K : Res → Option Ω) (next : Option Ω) : Option Ω := Au 49 (da Aj_k Aj_c) (unc Aj_c L.Aj) Aj_r f l K next
abbrev Dk_k : List Sk := [.agg 2]
abbrev Dk_c : List Pc := [.s, .s]
abbrev Dk_t : List Pc := [.b]
noncomputable def Dk_d := dr (.t (.one false)) [] Dk_t
noncomputable def Dk_r := er (.t (.one false)) [] Dk_t
noncomputable def Dk_o (L : Lv) {Ω : Type} (f : FuncId) (l : List Arg) (K : Res → Option Ω) (next : Option Ω) : Option Ω := Au 65 (da Dk_k Dk_c) (unc Dk_c L.Dk) Dk_r f l K next
abbrev Bf_k : List Sk := [.one]
abbrev Bf_c : List Pc := [.s]
abbrev Bf_t : List Pc := [.b]
noncomputable def Bf_d := dr (.t (.one false)) [] Bf_t
noncomputable def Bf_r := er (.t (.one false)) [] Bf_t
noncomputable def Bf_o (L : Lv) {Ω : Type} (f : FuncId) (l : List Arg) (K : Res → Option Ω) (next : Option Ω) : Option Ω := Au 50 (da Bf_k Bf_c) (unc Bf_c L.Bf) Bf_r f l K next
abbrev Bx_k : List Sk := [.one]
abbrev Bx_c : List Pc := [.s]
abbrev Bx_t : List Pc := [.b]
noncomputable def Bx_d := dr (.t (.one false)) [] Bx_t
noncomputable def Bx_r := er (.t (.one false)) [] Bx_t
noncomputable def Bx_o (L : Lv) {Ω : Type} (f : FuncId) (l : List Arg) (K : Res → Option Ω) (next : Option Ω) : Option Ω := Au 68 (da Bx_k Bx_c) (unc Bx_c L.Bx) Bx_r f l K next
abbrev Ba_k : List Sk := [.one]
abbrev Ba_c : List Pc := [.s]
abbrev Ba_t : List Pc := [.r 21, .i .i64, .i .i64]
noncomputable def Ba_d := dr (.tup [.one true, .one false, .one false]) [] Ba_t
noncomputable def Ba_r := er (.tup [.one true, .one false, .one false]) [] Ba_t
noncomputable def Ba_o (L : Lv) {Ω : Type} (f : FuncId) (l : List Arg) (K : Res → Option Ω) (next : Option Ω) : Option Ω := Au 66 (da Ba_k Ba_c) (unc Ba_c L.Ba) Ba_r f l K next
abbrev Cu_k : List Sk := [.one]
abbrev Cu_c : List Pc := [.i .i64]
abbrev Cu_t : List Pc := [.b]
noncomputable def Cu_d := dr (.t (.one false)) [] Cu_t
noncomputable def Cu_r := er (.t (.one false)) [] Cu_t
noncomputable def Cu_o (L : Lv) {Ω : Type} (f : FuncId) (l : List Arg) (K : Res → Option Ω) (next : Option Ω) : Option Ω := Au 85 (da Cu_k Cu_c) (unc Cu_c L.Cu) Cu_r f l K next
abbrev Bc_k : List Sk := [.one, .one]
abbrev Bc_c : List Pc := [.s, .i .i64]
abbrev Bc_t : List Pc := [.i .i64, .i .i64, .i .i64]
noncomputable def Bc_d := dr (.tup [.one false, .one false, .one false]) [] Bc_t
noncomputable def Bc_r := er (.tup [.one false, .one false, .one false]) [] Bc_t
noncomputable def Bc_o (L : Lv) {Ω : Type} (f : FuncId) (l : List Arg) (K : Res → Option Ω) (next : Option Ω) : Option Ω := Au 83 (da Bc_k Bc_c) (unc Bc_c L.Bc) Bc_r f l K next
abbrev Cp_k : List Sk := [.one]
abbrev Cp_c : List Pc := [.i .i64]
abbrev Cp_t : List Pc := [.r 5]
noncomputable def Cp_d := dr (.t (.one true)) [] Cp_t
noncomputable def Cp_r := er (.t (.one true)) [] Cp_t
noncomputable def Cp_o (L : Lv) {Ω : Type} (f : FuncId) (l : List Arg) (K : Res → Option Ω) (next : Option Ω) : Option Ω := Au 94 (da Cp_k Cp_c) (unc Cp_c L.Cp) Cp_r f l K next
abbrev Ag_k : List Sk := [.one, .one]
abbrev Ag_c : List Pc := [.s, .i .i64]
abbrev Ag_t : List Pc := [.b]
noncomputable def Ag_d := dr (.t (.one false)) [] Ag_t
noncomputable def Ag_r := er (.t (.one false)) [] Ag_t
noncomputable def Ag_o (L : Lv) {Ω : Type} (f : FuncId) (l : List Arg) (K : Res → Option Ω) (next : Option Ω) : Option Ω := Au 96 (da Ag_k Ag_c) (unc Ag_c L.Ag) Ag_r f l K next
abbrev Ap_k : List Sk := [.one, .one, .one]
abbrev Ap_c : List Pc := [.s, .i .i64, .i .i64]
abbrev Ap_t : List Pc := [.i .i64]
noncomputable def Ap_d := dr (.t (.one false)) [] Ap_t
noncomputable def Ap_r := er (.t (.one false)) [] Ap_t
noncomputable def Ap_o (L : Lv) {Ω : Type} (f : FuncId) (l : List Arg) (K : Res → Option Ω) (next : Option Ω) : Option Ω := Au 93 (da Ap_k Ap_c) (unc Ap_c L.Ap) Ap_r f l K next
abbrev Bj_k : List Sk := [.one]
abbrev Bj_c : List Pc := [.r 30]
abbrev Bj_t : List Pc := [.b]
noncomputable def Bj_d := dr (.t (.one false)) [] Bj_t
noncomputable def Bj_r := er (.t (.one false)) [] Bj_t
noncomputable def Bj_o (L : Lv) {Ω : Type} (f : FuncId) (l : List Arg) (K : Res → Option Ω) (next : Option Ω) : Option Ω := Au 15 (da Bj_k Bj_c) (unc Bj_c L.Bj) Bj_r f l K next
abbrev C0_k : List Sk := [.one]
abbrev C0_c : List Pc := [.i .i64]
abbrev C0_t : List Pc := [.b]
noncomputable def C0_d := dr (.t (.one false)) [] C0_t
noncomputable def C0_r := er (.t (.one false)) [] C0_t
noncomputable def C0_o (L : Lv) {Ω : Type} (f : FuncId) (l : List Arg) (K : Res → Option Ω) (next : Option Ω) : Option Ω := Au 67 (da C0_k C0_c) (unc C0_c L.C0) C0_r f l K next
abbrev C1_k : List Sk := [.one]
abbrev C1_c : List Pc := [.i .i64]
abbrev C1_t : List Pc := [.b]
noncomputable def C1_d := dr (.t (.one false)) [] C1_t
noncomputable def C1_r := er (.t (.one false)) [] C1_t
noncomputable def C1_o (L : Lv) {Ω : Type} (f : FuncId) (l : List Arg) (K : Res → Option Ω) (next : Option Ω) : Option Ω := Au 86 (da C1_k C1_c) (unc C1_c L.C1) C1_r f l K next
abbrev Bt_k : List Sk := [.one, .one, .one]
abbrev Bt_c : List Pc := [.s, .i .i64, .r 5]
abbrev Bt_t : List Pc := [.b]
noncomputable def Bt_d := dr (.t (.one false)) [] Bt_t
noncomputable def Bt_r := er (.t (.one false)) [] Bt_t
noncomputable def Bt_o (L : Lv) {Ω : Type} (f : FuncId) (l : List Arg) (K : Res → Option Ω) (next : Option Ω) : Option Ω := Au 95 (da Bt_k Bt_c) (unc Bt_c L.Bt) Bt_r f l K next
abbrev Cz_k : List Sk := [.one]
abbrev Cz_c : List Pc := [.i .i64]
abbrev Cz_t : List Pc := [.b]
noncomputable def Cz_d := dr (.t (.one false)) [] Cz_t
noncomputable def Cz_r := er (.t (.one false)) [] Cz_t
noncomputable def Cz_o (L : Lv) {Ω : Type} (f : FuncId) (l : List Arg) (K : Res → Option Ω) (next : Option Ω) : Option Ω := Au 84 (da Cz_k Cz_c) (unc Cz_c L.Cz) Cz_r f l K next
abbrev Di_k : List Sk := [.one]
abbrev Di_c : List Pc := [.r 30]
abbrev Di_t : List Pc := [.b]
noncomputable def Di_d := dr (.t (.one false)) [] Di_t
noncomputable def Di_r := er (.t (.one false)) [] Di_t
noncomputable def Di_o (L : Lv) {Ω : Type} (f : FuncId) (l : List Arg) (K : Res → Option Ω) (next : Option Ω) : Option Ω := Au 17 (da Di_k Di_c) (unc Di_c L.Di) Di_r f l K next
abbrev B8_k : List Sk := [.one, .one, .one]
abbrev B8_c : List Pc := [.s, .i .i64, .s]
abbrev B8_t : List Pc := [.i .i64]
noncomputable def B8_d := dr (.t (.one false)) [] B8_t
noncomputable def B8_r := er (.t (.one false)) [] B8_t
noncomputable def B8_o (L : Lv) {Ω : Type} (f : FuncId) (l : List Arg) (K : Res → Option Ω) (next : Option Ω) : Option Ω := Au 82 (da B8_k B8_c) (unc B8_c L.B8) B8_r f l K next
abbrev A5_k : List Sk := [.one]
abbrev A5_c : List Pc := [.r 30]
abbrev A5_t : List Pc := [.i .i64]
noncomputable def A5_d := dr (.t (.one false)) [] A5_t
noncomputable def A5_r := er (.t (.one false)) [] A5_t
noncomputable def A5_o (L : Lv) {Ω : Type} (f : FuncId) (l : List Arg) (K : Res → Option Ω) (next : Option Ω) : Option Ω := Au 41 (da A5_k A5_c) (unc A5_c L.A5) A5_r f l K next
abbrev A6_k : List Sk := [.agg 5]
abbrev A6_c : List Pc := [.i .i64, .s, .s, .r 86, .s]
abbrev A6_t : List Pc := [.b]
noncomputable def A6_d := dr (.t (.one false)) [] A6_t
noncomputable def A6_r := er (.t (.one false)) [] A6_t
noncomputable def A6_o (L : Lv) {Ω : Type} (f : FuncId) (l : List Arg) (K : Res → Option Ω) (next : Option Ω) : Option Ω := Au 30 (da A6_k A6_c) (unc A6_c L.A6) A6_r f l K next
abbrev De_k : List Sk := [.agg 2]
abbrev De_c : List Pc := [.s, .s]
abbrev De_t : List Pc := [.b]
noncomputable def De_d := dr (.t (.one false)) [] De_t
noncomputable def De_r := er (.t (.one false)) [] De_t
noncomputable def De_o (L : Lv) {Ω : Type} (f : FuncId) (l : List Arg) (K : Res → Option Ω) (next : Option Ω) : Option Ω := Au 51 (da De_k De_c) (unc De_c L.De) De_r f l K next
abbrev Bo_k : List Sk := [.one]
abbrev Bo_c : List Pc := [.r 30]
abbrev Bo_t : List Pc := [.r 30, .r 3]
noncomputable def Bo_d := dr (.t (.agg [false, true])) [] Bo_t
noncomputable def Bo_r := er (.t (.agg [false, true])) [] Bo_t
noncomputable def Bo_o (L : Lv) {Ω : Type} (f : FuncId) (l : List Arg) (K : Res → Option Ω) (next : Option Ω) : Option Ω := Au 22 (da Bo_k Bo_c) (unc Bo_c L.Bo) Bo_r f l K next
abbrev Cd_k : List Sk := [.agg 8, .agg 3]
abbrev Cd_c : List Pc := [.r 25, .r 39, .r 3, .i .i64, .i .i64, .i .i64, .r 83, .r 66, .b, .b, .s]
abbrev Cd_t : List Pc := [.b]
noncomputable def Cd_d := dr (.t (.one false)) [] Cd_t
noncomputable def Cd_r := er (.t (.one false)) [] Cd_t
noncomputable def Cd_o (L : Lv) {Ω : Type} (f : FuncId) (l : List Arg) (K : Res → Option Ω) (next : Option Ω) : Option Ω := Au 23 (da Cd_k Cd_c) (unc Cd_c L.Cd) Cd_r f l K next
abbrev Cc_k : List Sk := [.agg 8]
abbrev Cc_c : List Pc := [.r 25, .r 39, .r 3, .i .i64, .i .i64, .i .i64, .r 83, .r 66]
abbrev Cc_t : List Pc := [.i .i64]
noncomputable def Cc_d := dr (.t (.one false)) [] Cc_t
noncomputable def Cc_r := er (.t (.one false)) [] Cc_t
noncomputable def Cc_o (L : Lv) {Ω : Type} (f : FuncId) (l : List Arg) (K : Res → Option Ω) (next : Option Ω) : Option Ω := Au 34 (da Cc_k Cc_c) (unc Cc_c L.Cc) Cc_r f l K next
abbrev Bn_k : List Sk := [.agg 2, .agg 3, .one]
abbrev Bn_c : List Pc := [.r 30, .r 3, .i .i64, .r 25, .r 66, .i .i64]
abbrev Bn_t : List Pc := [.r 3]
noncomputable def Bn_d := dr (.t (.one true)) [] Bn_t
noncomputable def Bn_r := er (.t (.one true)) [] Bn_t
noncomputable def Bn_o (L : Lv) {Ω : Type} (f : FuncId) (l : List Arg) (K : Res → Option Ω) (next : Option Ω) : Option Ω := Au 24 (da Bn_k Bn_c) (unc Bn_c L.Bn) Bn_r f l K next
abbrev A8_k : List Sk := [.agg 8, .agg 6, .agg 5, .one]
abbrev A8_c : List Pc := [.r 25, .r 39, .r 3, .i .i64, .i .i64, .i .i64, .r 83, .r 66, .i .i64, .s, .s, .s, .r 66, .r 25, .i .i64, .s, .s, .r 86, .s, .r 5]
abbrev A8_t : List Pc := [.b]
noncomputable def A8_d := dr (.t (.one false)) [] A8_t
noncomputable def A8_r := er (.t (.one false)) [] A8_t
noncomputable def A8_o (L : Lv) {Ω : Type} (f : FuncId) (l : List Arg) (K : Res → Option Ω) (next : Option Ω) : Option Ω := Au 25 (da A8_k A8_c) (unc A8_c L.A8) A8_r f l K next
abbrev Ab_k : List Sk := [.agg 2, .agg 3, .one]
abbrev Ab_c : List Pc := [.r 30, .r 3, .i .i64, .r 25, .r 66, .r 3]
abbrev Ab_t : List Pc := [.r 3]
noncomputable def Ab_d := dr (.t (.one false)) [] Ab_t
noncomputable def Ab_r := er (.t (.one false)) [] Ab_t
noncomputable def Ab_o (L : Lv) {Ω : Type} (f : FuncId) (l : List Arg) (K : Res → Option Ω) (next : Option Ω) : Option Ω := Au 44 (da Ab_k Ab_c) (unc Ab_c L.Ab) Ab_r f l K next
abbrev Cm_k : List Sk := [.agg 2, .one]
abbrev Cm_c : List Pc := [.r 30, .r 3, .i .i64]
abbrev Cm_t : List Pc := [.i .i64]
noncomputable def Cm_d := dr (.t (.one false)) [] Cm_t
noncomputable def Cm_r := er (.t (.one false)) [] Cm_t
noncomputable def Cm_o (L : Lv) {Ω : Type} (f : FuncId) (l : List Arg) (K : Res → Option Ω) (next : Option Ω) : Option Ω := Au 59 (da Cm_k Cm_c) (unc Cm_c L.Cm) Cm_r f l K next
abbrev Bz_k : List Sk := [.one, .one]
abbrev Bz_c : List Pc := [.r 3, .i .i64]
abbrev Bz_t : List Pc := [.b]
noncomputable def Bz_d := dr (.t (.one false)) [] Bz_t
noncomputable def Bz_r := er (.t (.one false)) [] Bz_t
noncomputable def Bz_o (L : Lv) {Ω : Type} (f : FuncId) (l : List Arg) (K : Res → Option Ω) (next : Option Ω) : Option Ω := Au 45 (da Bz_k Bz_c) (unc Bz_c L.Bz) Bz_r f l K next
abbrev Cn_k : List Sk := [.agg 2, .one]
abbrev Cn_c : List Pc := [.r 30, .r 3, .i .i64]
abbrev Cn_t : List Pc := [.i .i64]
noncomputable def Cn_d := dr (.t (.one false)) [] Cn_t
noncomputable def Cn_r := er (.t (.one false)) [] Cn_t
noncomputable def Cn_o (L : Lv) {Ω : Type} (f : FuncId) (l : List Arg) (K : Res → Option Ω) (next : Option Ω) : Option Ω := Au 60 (da Cn_k Cn_c) (unc Cn_c L.Cn) Cn_r f l K next
abbrev A7_k : List Sk := [.agg 2, .agg 6, .one]
abbrev A7_c : List Pc := [.r 30, .r 3, .i .i64, .s, .s, .s, .r 66, .r 25, .i .i64]
abbrev A7_t : List Pc := [.b]
noncomputable def A7_d := dr (.t (.one false)) [] A7_t
noncomputable def A7_r := er (.t (.one false)) [] A7_t
noncomputable def A7_o (L : Lv) {Ω : Type} (f : FuncId) (l : List Arg) (K : Res → Option Ω) (next : Option Ω) : Option Ω := Au 26 (da A7_k A7_c) (unc A7_c L.A7) A7_r f l K next
abbrev By_k : List Sk := [.agg 2, .one]
abbrev By_c : List Pc := [.r 30, .r 3, .i .i64]
abbrev By_t : List Pc := [.i .i64]
noncomputable def By_d := dr (.t (.one false)) [] By_t
noncomputable def By_r := er (.t (.one false)) [] By_t
noncomputable def By_o (L : Lv) {Ω : Type} (f : FuncId) (l : List Arg) (K : Res → Option Ω) (next : Option Ω) : Option Ω := Au 78 (da By_k By_c) (unc By_c L.By) By_r f l K next
abbrev Bu_k : List Sk := [.one, .one]
abbrev Bu_c : List Pc := [.r 30, .i .i64]
abbrev Bu_t : List Pc := [.i .i64]
noncomputable def Bu_d := dr (.t (.one false)) [] Bu_t
noncomputable def Bu_r := er (.t (.one false)) [] Bu_t
noncomputable def Bu_o (L : Lv) {Ω : Type} (f : FuncId) (l : List Arg) (K : Res → Option Ω) (next : Option Ω) : Option Ω := Au 42 (da Bu_k Bu_c) (unc Bu_c L.Bu) Bu_r f l K next
noncomputable def orK (L : Lv) {Ω : Type} (f : FuncId) (l : List Arg) (K : Res → Option Ω) : Option Ω := Av_o L f l K (Dt_o L f l K (Br_o L f l K (C2_o L f l K (Ah_o L f l K (Cq_o L f l K (Ar_o L f l K (Bh_o L f l K (B3_o L f l K (Bd_o L f l K (Bl_o L f l K (B4_o L f l K (Ce_o L f l K (Ao_o L f l K (Bs_o L f l K (C8_o L f l K (B9_o L f l K (Cv_o L f l K (Cw_o L f l K (Cx_o L f l K (Cg_o L f l K (Ch_o L f l K (Ci_o L f l K (Dw_o L f l K (C9_o L f l K (Dn_o L f l K (Ca_o L f l K (Dm_o L f l K (Cj_o L f l K (Dv_o L f l K (C5_o L f l K (B7_o L f l K (At_o L f l K (Dd_o L f l K (B6_o L f l K (Dr_o L f l K (Dc_o L f l K (Dl_o L f l K (A9_o L f l K (Dq_o L f l K (Df_o L f l K (C3_o L f l K (B1_o L f l K (Bv_o L f l K (Db_o L f l K (An_o L f l K (B0_o L f l K (Do_o L f l K (Bp_o L f l K (B5_o L f l K (Bi_o L f l K (Dp_o L f l K (Dh_o L f l K (Dg_o L f l K (Co_o L f l K (Cf_o L f l K (Da_o L f l K (Dj_o L f l K (Du_o L f l K (Bg_o L f l K (Bm_o L f l K (Bb_o L f l K (Aj_o L f l K (Dk_o L f l K (Bf_o L f l K (Bx_o L f l K (Ba_o L f l K (Cu_o L f l K (Bc_o L f l K (Cp_o L f l K (Ag_o L f l K (Ap_o L f l K (Bj_o L f l K (C0_o L f l K (C1_o L f l K (Bt_o L f l K (Cz_o L f l K (Di_o L f l K (B8_o L f l K (A5_o L f l K (A6_o L f l K (De_o L f l K (Bo_o L f l K (Cd_o L f l K (Cc_o L f l K (Bn_o L f l K (A8_o L f l K (Ab_o L f l K (Cm_o L f l K (Bz_o L f l K (Cn_o L f l K (A7_o L f l K (By_o L f l K (Bu_o L f l K (none))))))))))))))))))))))))))))))))))))))))))))))))))))))))))))))))))))))))))))))))))))))))))))))
noncomputable def Av_b (L : Lv) (k : Nat) : Int → LL → LL → LL → Option Bool := cur Av_c fun a => As Ac Try.prog (orK L) kp k 6 (ea Av_k Av_c a) Av_d
noncomputable def Av_l0 (L : Lv) (k : Nat) (xb : Int) (xa xc x1 : LL) (m0 : Nat) (v1 : Int) (v2 : LL) (v3 v4 v5 : Int) (v6 v7 v8 v9 v10 v11 v12 : LL) : Option Bool := Ak Ac Try.prog (orK L) kp k 6 (ea Av_k Av_c (xb, xa, xc, x1)) [1, 1, 1, 1, 1, 1, 0, 1, 0] [m0] ⟨[(1, .one (.c (C.row 30 x1))), (5, .one (.ptr 128 0)), (6, .one (.ptr 129 0)), (7, .one (.arr 130)), (8, .one (.c (C.int .i64 v1)))], [(128, .box 60 [.c (C.row 30 v2), .arr 131]), (129, .box 41 [.arr 132, .arr 133, .arr 134, .c (C.int .i64 v3), .c (C.int .i64 v4), .c (C.int .i64 v5), .c (C.row 83 v6), .c (C.row 66 v7)]), (130, .arr 44 false v8), (131, .arr 3 false v9), (132, .arr 25 false v10), (133, .arr 39 false v11), (134, .arr 3 false v12)], 136, 163⟩ Av_d
noncomputable def Av_l1 (L : Lv) (k : Nat) (xb : Int) (xa xc x1 : LL) (m0 m1 : Nat) (v1 v2 : Int) (v3 : LL) (v4 v5 v6 : Int) (v7 v8 v9 v10 v11 v12 v13 : LL) : Option Bool := Ak Ac Try.prog (orK L) kp k 6 (ea Av_k Av_c (xb, xa, xc, x1)) [1, 1, 1, 1, 1, 1, 0, 1, 0, 0, 1, 0, 0, 1, 0, 1, 0] [m0, m1] ⟨[(1, .one (.c (C.row 30 x1))), (5, .one (.ptr 128 0)), (6, .one (.ptr 129 0)), (7, .one (.arr 130)), (8, .one (.c (C.int .i64 v1))), (9, .one (.c (C.int .i64 v2)))], [(128, .box 60 [.c (C.row 30 v3), .arr 131]), (129, .box 41 [.arr 132, .arr 133, .arr 134, .c (C.int .i64 v4), .c (C.int .i64 v5), .c (C.int .i64 v6), .c (C.row 83 v7), .c (C.row 66 v8)]), (130, .arr 44 false v9), (131, .arr 3 false v10), (132, .arr 25 false v11), (133, .arr 39 false v12), (134, .arr 3 false v13)], 136, 163⟩ Av_d
noncomputable def Av_l2 (L : Lv) (k : Nat) (xb : Int) (xa xc x1 : LL) (m0 m1 : Nat) (v1 v2 : Int) (v3 : LL) (v4 v5 v6 : Int) (v7 v8 v9 v10 v11 v12 v13 : LL) : Option Bool := Ak Ac Try.prog (orK L) kp k 6 (ea Av_k Av_c (xb, xa, xc, x1)) [1, 1, 1, 1, 1, 1, 0, 1, 0, 0, 1, 0, 0, 1, 1, 1, 0] [m0, m1] ⟨[(1, .one (.c (C.row 30 x1))), (5, .one (.ptr 128 0)), (6, .one (.ptr 129 0)), (7, .one (.arr 130)), (8, .one (.c (C.int .i64 v1))), (10, .one (.c (C.int .i64 v2)))], [(128, .box 60 [.c (C.row 30 v3), .arr 131]), (129, .box 41 [.arr 132, .arr 133, .arr 134, .c (C.int .i64 v4), .c (C.int .i64 v5), .c (C.int .i64 v6), .c (C.row 83 v7), .c (C.row 66 v8)]), (130, .arr 44 false v9), (131, .arr 3 false v10), (132, .arr 25 false v11), (133, .arr 39 false v12), (134, .arr 3 false v13)], 136, 163⟩ Av_d
noncomputable def Dt_b (L : Lv) (k : Nat) : Option Bool := cur Dt_c fun a => As Ac Try.prog (orK L) kp k 8 (ea Dt_k Dt_c a) Dt_d
noncomputable def Br_b (L : Lv) (k : Nat) : Int → LL → LL → Option (LL × LL × LL × Int × Int × Int × LL × LL) := cur Br_c fun a => As Ac Try.prog (orK L) kp k 11 (ea Br_k Br_c a) Br_d
noncomputable def Br_l0 (L : Lv) (k : Nat) (xb : Int) (xa xc : LL) (m0 : Nat) (v1 v5 v6 v7 : Int) (v8 v9 v10 : LL) : Option (LL × LL × LL × Int × Int × Int × LL × LL) := Ak Ac Try.prog (orK L) kp k 11 (ea Br_k Br_c (xb, xa, xc)) [1, 1, 1, 1, 0, 1, 0] [m0] ⟨[(2, .one (.ptr 64 0)), (3, .one (.ptr 65 0)), (4, .one (.arr 66)), (5, .one (.c (C.int .i64 0))), (6, .one (.c (C.int .i64 v1)))], [(64, .box 41 [.c (C.nil 25), .c (C.nil 39), .c (C.nil 3), .c (C.int .i64 0), .c (C.int .i64 0), .c (C.int .i64 0), .c (C.nil 83), .c (C.nil 66)]), (65, .box 41 [.c (C.nil 25), .c (C.nil 39), .c (C.nil 3), .c (C.int .i64 v5), .c (C.int .i64 v6), .c (C.int .i64 v7), .c (C.row 83 v8), .c (C.row 66 v9)]), (66, .arr 25 false v10)], 68, 57⟩ Br_d
noncomputable def Br_l1 (L : Lv) (k : Nat) (xb : Int) (xa xc : LL) (m0 : Nat) (v0 v1 v5 v6 v7 : Int) (v8 v9 v10 v11 v12 v13 : LL) : Option (LL × LL × LL × Int × Int × Int × LL × LL) := Ak Ac Try.prog (orK L) kp k 11 (ea Br_k Br_c (xb, xa, xc)) [1, 1, 1, 1, 0, 1, 0] [m0] ⟨[(2, .one (.ptr 64 0)), (3, .one (.ptr 65 0)), (4, .one (.arr 66)), (5, .one (.c (C.int .i64 v0))), (6, .one (.c (C.int .i64 v1)))], [(64, .box 41 [.c (C.nil 25), .c (C.nil 39), .c (C.nil 3), .c (C.int .i64 0), .c (C.int .i64 0), .c (C.int .i64 0), .c (C.nil 83), .c (C.nil 66)]), (65, .box 41 [.arr 67, .arr 68, .arr 69, .c (C.int .i64 v5), .c (C.int .i64 v6), .c (C.int .i64 v7), .c (C.row 83 v8), .c (C.row 66 v9)]), (66, .arr 25 false v10), (67, .arr 25 false v11), (68, .arr 39 false v12), (69, .arr 3 false v13)], 71, 57⟩ Br_d
noncomputable def C2_b (L : Lv) (k : Nat) : Int → LL → LL → Option (Int × Int × Int × LL × LL) := cur C2_c fun a => As Ac Try.prog (orK L) kp k 31 (ea C2_k C2_c a) C2_d
noncomputable def Ah_b (L : Lv) (k : Nat) : Int → Int → Int → LL → LL → Int → LL → LL → Option (Int × Int × Int × LL × LL × Int × Int) := cur Ah_c fun a => As Ac Try.prog (orK L) kp k 52 (ea Ah_k Ah_c a) Ah_d
noncomputable def Ah_l0 (L : Lv) (k : Nat) (xb xa xc : Int) (xg xh : LL) (xd : Int) (xe xf : LL) (m0 : Nat) : Option (Int × Int × Int × LL × LL × Int × Int) := Ak Ac Try.prog (orK L) kp k 52 (ea Ah_k Ah_c (xb, xa, xc, xg, xh, xd, xe, xf)) [1, 1, 1, 0, 1, 0, 1, 1, 0, 1, 0] [m0] ⟨[(2, .one (.ptr 128 0)), (3, .one (.ptr 129 0)), (4, .one (.ptr 130 0)), (5, .one (.c (C.int .i64 xb))), (10, .one (.c (C.nil 3))), (11, .one (.c (C.int .i64 0)))], [(128, .box 39 [.c (C.int .i64 (IntKind.i64.wrap (xb + 1))), .c (C.int .i64 xa), .c (C.int .i64 xc), .c (C.row 83 xg), .c (C.row 66 xh)]), (129, .box 25 [.c (C.int .i64 xd), .c (C.row 25 xe), .c (C.row 66 xf)]), (130, .box 105 [.c (C.int .i64 0), .c (C.int .i64 0), .c (C.int .i64 0), .c (C.nil 83), .c (C.nil 66), .c (C.int .i64 0), .c (C.int .i64 0)])], 132, 175⟩ Ah_d
noncomputable def Ah_l1 (L : Lv) (k : Nat) (xb xa xc : Int) (xg xh : LL) (xd : Int) (xe xf : LL) (v1 : Int) : Option (Int × Int × Int × LL × LL × Int × Int) := Ak Ac Try.prog (orK L) kp k 52 (ea Ah_k Ah_c (xb, xa, xc, xg, xh, xd, xe, xf)) [1, 1, 1, 1, 1, 1, 1, 1, 1, 1, 0, 0] [] ⟨[(2, .one (.ptr 128 0)), (3, .one (.ptr 129 0)), (4, .one (.ptr 130 0)), (5, .one (.c (C.int .i64 xb))), (16, .one (.c (C.int .i64 v1))), (17, .one (.c (C.int .i64 0)))], [(128, .box 39 [.c (C.int .i64 (IntKind.i64.wrap (xb + 2))), .c (C.int .i64 xa), .c (C.int .i64 xc), .c (C.row 83 xg), .c (C.row 66 xh)]), (129, .box 25 [.c (C.int .i64 xd), .c (C.row 25 xe), .c (C.row 66 xf)]), (130, .box 105 [.c (C.int .i64 0), .c (C.int .i64 0), .c (C.int .i64 0), .c (C.nil 83), .c (C.nil 66), .c (C.int .i64 0), .c (C.int .i64 0)])], 132, 175⟩ Ah_d
noncomputable def Ah_l2 (L : Lv) (k : Nat) (xb xa xc : Int) (xg xh : LL) (xd : Int) (xe xf : LL) (m0 : Nat) : Option (Int × Int × Int × LL × LL × Int × Int) := Ak Ac Try.prog (orK L) kp k 52 (ea Ah_k Ah_c (xb, xa, xc, xg, xh, xd, xe, xf)) [1, 1, 1, 0, 1, 0, 1, 1, 1, 1, 1, 0, 1, 0] [m0] ⟨[(2, .one (.ptr 128 0)), (4, .one (.ptr 129 0)), (5, .one (.c (C.int .i64 xb))), (10, .one (.c (C.nil 3))), (13, .one (.c (C.int .i64 (IntKind.i64.wrap (xb + 1))))), (14, .one (.c (C.int .i64 0)))], [(128, .box 39 [.c (C.int .i64 (IntKind.i64.wrap (IntKind.i64.wrap (xb + 1) + 1))), .c (C.int .i64 xa), .c (C.int .i64 xc), .c (C.row 83 xg), .c (C.row 66 xh)]), (129, .box 105 [.c (C.int .i64 0), .c (C.int .i64 0), .c (C.int .i64 0), .c (C.nil 83), .c (C.nil 66), .c (C.int .i64 0), .c (C.int .i64 0)])], 131, 175⟩ Ah_d
noncomputable def Ah_l3 (L : Lv) (k : Nat) (xb xa xc : Int) (xg xh : LL) (xd : Int) (xe xf : LL) (m0 : Nat) (v0 v10 v11 v12 : Int) (v13 v14 : LL) (v15 v16 : Int) : Option (Int × Int × Int × LL × LL × Int × Int) := Ak Ac Try.prog (orK L) kp k 52 (ea Ah_k Ah_c (xb, xa, xc, xg, xh, xd, xe, xf)) [1, 1, 0, 1, 0, 1, 1, 0, 1, 0] [m0] ⟨[(3, .one (.ptr 128 0)), (4, .one (.ptr 129 0)), (6, .one (.ptr 130 0)), (7, .one (.c (C.int .i64 v0))), (8, .one (.c (C.int .i64 1)))], [(128, .box 25 [.c (C.int .i64 xd), .c (C.row 25 xe), .c (C.row 66 xf)]), (129, .box 105 [.c (C.int .i64 0), .c (C.int .i64 0), .c (C.int .i64 0), .c (C.nil 83), .c (C.nil 66), .c (C.int .i64 0), .c (C.int .i64 0)]), (130, .box 105 [.c (C.int .i64 v10), .c (C.int .i64 v11), .c (C.int .i64 v12), .c (C.row 83 v13), .c (C.row 66 v14), .c (C.int .i64 v15), .c (C.int .i64 v16)])], 132, 175⟩ Ah_d
noncomputable def Ah_l4 (L : Lv) (k : Nat) (xb xa xc : Int) (xg xh : LL) (xd : Int) (xe xf : LL) (m0 : Nat) (v1 v2 v3 v4 : Int) (v5 v14 v15 : LL) : Option (Int × Int × Int × LL × LL × Int × Int) := Ak Ac Try.prog (orK L) kp k 52 (ea Ah_k Ah_c (xb, xa, xc, xg, xh, xd, xe, xf)) [1, 1, 1, 0, 1, 0, 1, 1, 0, 1, 0] [m0] ⟨[(2, .one (.ptr 128 0)), (3, .one (.ptr 129 0)), (4, .one (.ptr 130 0)), (5, .one (.c (C.int .i64 xb))), (10, .one (.arr 131)), (11, .one (.c (C.int .i64 v1)))], [(128, .box 39 [.c (C.int .i64 v2), .c (C.int .i64 v3), .c (C.int .i64 v4), .arr 132, .c (C.row 66 v5)]), (129, .box 25 [.c (C.int .i64 xd), .c (C.row 25 xe), .c (C.row 66 xf)]), (130, .box 105 [.c (C.int .i64 0), .c (C.int .i64 0), .c (C.int .i64 0), .c (C.nil 83), .c (C.nil 66), .c (C.int .i64 0), .c (C.int .i64 0)]), (131, .arr 3 false v14), (132, .arr 83 false v15)], 134, 175⟩ Ah_d
noncomputable def Ah_l5 (L : Lv) (k : Nat) (xb xa xc : Int) (xg xh : LL) (xd : Int) (xe xf : LL) (m0 : Nat) (v0 v1 v10 v11 v12 : Int) (v13 : LL) (v14 v15 : Int) (v16 : LL) : Option (Int × Int × Int × LL × LL × Int × Int) := Ak Ac Try.prog (orK L) kp k 52 (ea Ah_k Ah_c (xb, xa, xc, xg, xh, xd, xe, xf)) [1, 1, 0, 1, 0, 1, 1, 0, 1, 0] [m0] ⟨[(3, .one (.ptr 128 0)), (4, .one (.ptr 129 0)), (6, .one (.ptr 130 0)), (7, .one (.c (C.int .i64 v0))), (8, .one (.c (C.int .i64 v1)))], [(128, .box 25 [.c (C.int .i64 xd), .c (C.row 25 xe), .c (C.row 66 xf)]), (129, .box 105 [.c (C.int .i64 0), .c (C.int .i64 0), .c (C.int .i64 0), .c (C.nil 83), .c (C.nil 66), .c (C.int .i64 0), .c (C.int .i64 0)]), (130, .box 105 [.c (C.int .i64 v10), .c (C.int .i64 v11), .c (C.int .i64 v12), .arr 131, .c (C.row 66 v13), .c (C.int .i64 v14), .c (C.int .i64 v15)]), (131, .arr 83 false v16)], 133, 175⟩ Ah_d
noncomputable def Ah_l6 (L : Lv) (k : Nat) (xb xa xc : Int) (xg xh : LL) (xd : Int) (xe xf : LL) (m0 : Nat) (v1 v2 v3 v4 v5 : Int) (v6 v12 v13 : LL) : Option (Int × Int × Int × LL × LL × Int × Int) := Ak Ac Try.prog (orK L) kp k 52 (ea Ah_k Ah_c (xb, xa, xc, xg, xh, xd, xe, xf)) [1, 1, 1, 0, 1, 0, 1, 1, 1, 1, 1, 0, 1, 0] [m0] ⟨[(2, .one (.ptr 128 0)), (4, .one (.ptr 129 0)), (5, .one (.c (C.int .i64 xb))), (10, .one (.arr 130)), (13, .one (.c (C.int .i64 v1))), (14, .one (.c (C.int .i64 v2)))], [(128, .box 39 [.c (C.int .i64 v3), .c (C.int .i64 v4), .c (C.int .i64 v5), .arr 131, .c (C.row 66 v6)]), (129, .box 105 [.c (C.int .i64 0), .c (C.int .i64 0), .c (C.int .i64 0), .c (C.nil 83), .c (C.nil 66), .c (C.int .i64 0), .c (C.int .i64 0)]), (130, .arr 3 false v12), (131, .arr 83 false v13)], 133, 175⟩ Ah_d
noncomputable def Cq_b (L : Lv) (k : Nat) : Int → Int → Int → LL → LL → Int → Int → Int → Int → Option (Int × Int × Int × LL × LL) := cur Cq_c fun a => As Ac Try.prog (orK L) kp k 69 (ea Cq_k Cq_c a) Cq_d
noncomputable def Ar_b (L : Lv) (k : Nat) : Int → LL → LL → Option LL := cur Ar_c fun a => As Ac Try.prog (orK L) kp k 32 (ea Ar_k Ar_c a) Ar_d
noncomputable def Ar_l0 (L : Lv) (k : Nat) (xb : Int) (xa xc : LL) (m0 : Nat) : Option LL := Ak Ac Try.prog (orK L) kp k 32 (ea Ar_k Ar_c (xb, xa, xc)) [1, 1, 0, 1, 0] [m0] ⟨[(1, .one (.ptr 64 0)), (3, .one (.c (C.nil 25))), (4, .one (.c (C.int .i64 0)))], [(64, .box 25 [.c (C.int .i64 xb), .c (C.row 25 xa), .c (C.row 66 xc)])], 66, 37⟩ Ar_d
noncomputable def Ar_l1 (L : Lv) (k : Nat) (xb : Int) (xa xc : LL) (m0 : Nat) : Option LL := Ak Ac Try.prog (orK L) kp k 32 (ea Ar_k Ar_c (xb, xa, xc)) [1, 1, 1, 0, 1, 0] [m0] ⟨[(1, .one (.ptr 64 0)), (3, .one (.c (C.nil 25))), (5, .one (.c (C.int .i64 0)))], [(64, .box 25 [.c (C.int .i64 xb), .c (C.row 25 xa), .c (C.row 66 xc)])], 66, 37⟩ Ar_d
noncomputable def Ar_l2 (L : Lv) (k : Nat) (xb : Int) (xa xc : LL) (m0 : Nat) (v0 : Int) (v4 : LL) : Option LL := Ak Ac Try.prog (orK L) kp k 32 (ea Ar_k Ar_c (xb, xa, xc)) [1, 1, 0, 1, 0] [m0] ⟨[(1, .one (.ptr 64 0)), (3, .one (.arr 65)), (4, .one (.c (C.int .i64 v0)))], [(64, .box 25 [.c (C.int .i64 xb), .c (C.row 25 xa), .c (C.row 66 xc)]), (65, .arr 25 false v4)], 67, 37⟩ Ar_d
noncomputable def Ar_l3 (L : Lv) (k : Nat) (xb : Int) (xa xc : LL) (m0 : Nat) (v0 : Int) (v4 : LL) : Option LL := Ak Ac Try.prog (orK L) kp k 32 (ea Ar_k Ar_c (xb, xa, xc)) [1, 1, 1, 0, 1, 0] [m0] ⟨[(1, .one (.ptr 64 0)), (3, .one (.arr 65)), (5, .one (.c (C.int .i64 v0)))], [(64, .box 25 [.c (C.int .i64 xb), .c (C.row 25 xa), .c (C.row 66 xc)]), (65, .arr 25 false v4)], 67, 37⟩ Ar_d
noncomputable def Bh_b (L : Lv) (k : Nat) : Int → BA → BA → BA → LL → LL → Option LL := cur Bh_c fun a => As Ac Try.prog (orK L) kp k 53 (ea Bh_k Bh_c a) Bh_d
noncomputable def Bh_l0 (L : Lv) (k : Nat) (xb : Int) (xa xc xg : BA) (xh xi : LL) (m0 : Nat) : Option LL := Ak Ac Try.prog (orK L) kp k 53 (ea Bh_k Bh_c (xb, xa, xc, xg, xh, xi)) [1, 1, 0, 1, 0] [m0] ⟨[(1, .one (.ptr 64 0)), (3, .one (.c (C.nil 25))), (4, .one (.c (C.int .i64 0)))], [(64, .box 66 [.c (C.int .i64 xb), .c (C.str xa), .c (C.str xc), .c (C.str xg), .c (C.row 66 xh), .c (C.row 25 xi)])], 66, 38⟩ Bh_d
noncomputable def Bh_l1 (L : Lv) (k : Nat) (xb : Int) (xa xc xg : BA) (xh xi : LL) (m0 : Nat) (v0 : Int) (v7 : LL) : Option LL := Ak Ac Try.prog (orK L) kp k 53 (ea Bh_k Bh_c (xb, xa, xc, xg, xh, xi)) [1, 1, 0, 1, 0] [m0] ⟨[(1, .one (.ptr 64 0)), (3, .one (.arr 65)), (4, .one (.c (C.int .i64 v0)))], [(64, .box 66 [.c (C.int .i64 xb), .c (C.str xa), .c (C.str xc), .c (C.str xg), .c (C.row 66 xh), .c (C.row 25 xi)]), (65, .arr 25 false v7)], 67, 38⟩ Bh_d
noncomputable def B3_b (L : Lv) (k : Nat) : LL → LL → LL → Int → Int → Int → LL → LL → Int → LL → LL → Option Int := cur B3_c fun a => As Ac Try.prog (orK L) kp k 33 (ea B3_k B3_c a) B3_d
noncomputable def B3_l0 (L : Lv) (k : Nat) (xb xa xc : LL) (xg xh xi : Int) (xj xk : LL) (xd : Int) (xe xf : LL) (m0 : Nat) (v0 : Int) : Option Int := Ak Ac Try.prog (orK L) kp k 33 (ea B3_k B3_c (xb, xa, xc, xg, xh, xi, xj, xk, xd, xe, xf)) [1, 0, 1, 0] [m0] ⟨[(2, .one (.ptr 128 0)), (3, .one (.ptr 129 0)), (5, .one (.c (C.int .i64 v0)))], [(128, .box 41 [.c (C.row 25 xb), .c (C.row 39 xa), .c (C.row 3 xc), .c (C.int .i64 xg), .c (C.int .i64 xh), .c (C.int .i64 xi), .c (C.row 83 xj), .c (C.row 66 xk)]), (129, .box 25 [.c (C.int .i64 xd), .c (C.row 25 xe), .c (C.row 66 xf)])], 131, 21⟩ B3_d
noncomputable def Bd_b (L : Lv) (k : Nat) : Int → LL → LL → Int → LL → LL → Option Bool := cur Bd_c fun a => As Ac Try.prog (orK L) kp k 54 (ea Bd_k Bd_c a) Bd_d
noncomputable def Bd_l0 (L : Lv) (k : Nat) (xb : Int) (xa xc : LL) (xd : Int) (xe xf : LL) (m0 : Nat) (v0 : Int) : Option Bool := Ak Ac Try.prog (orK L) kp k 54 (ea Bd_k Bd_c (xb, xa, xc, xd, xe, xf)) [1, 1, 0, 1, 0] [m0] ⟨[(2, .one (.ptr 128 0)), (3, .one (.ptr 129 0)), (5, .one (.c (C.int .i64 v0)))], [(128, .box 25 [.c (C.int .i64 xb), .c (C.row 25 xa), .c (C.row 66 xc)]), (129, .box 25 [.c (C.int .i64 xd), .c (C.row 25 xe), .c (C.row 66 xf)])], 131, 68⟩ Bd_d
noncomputable def Bd_l1 (L : Lv) (k : Nat) (xb : Int) (xa xc : LL) (xd : Int) (xe xf : LL) (m0 : Nat) (v0 : Int) : Option Bool := Ak Ac Try.prog (orK L) kp k 54 (ea Bd_k Bd_c (xb, xa, xc, xd, xe, xf)) [1, 1, 1, 0, 1, 0] [m0] ⟨[(2, .one (.ptr 128 0)), (3, .one (.ptr 129 0)), (6, .one (.c (C.int .i64 v0)))], [(128, .box 25 [.c (C.int .i64 xb), .c (C.row 25 xa), .c (C.row 66 xc)]), (129, .box 25 [.c (C.int .i64 xd), .c (C.row 25 xe), .c (C.row 66 xf)])], 131, 68⟩ Bd_d
noncomputable def Bl_b (L : Lv) (k : Nat) : Int → BA → BA → BA → LL → LL → Int → BA → BA → BA → LL → LL → Option Bool := cur Bl_c fun a => As Ac Try.prog (orK L) kp k 70 (ea Bl_k Bl_c a) Bl_d
noncomputable def Bl_l0 (L : Lv) (k : Nat) (xb : Int) (xa xc xg : BA) (xh xi : LL) (xd : Int) (xe xf xl : BA) (xm xn : LL) (m0 : Nat) (v0 : Int) : Option Bool := Ak Ac Try.prog (orK L) kp k 70 (ea Bl_k Bl_c (xb, xa, xc, xg, xh, xi, xd, xe, xf, xl, xm, xn)) [1, 1, 0, 1, 0] [m0] ⟨[(2, .one (.ptr 128 0)), (3, .one (.ptr 129 0)), (5, .one (.c (C.int .i64 v0)))], [(128, .box 66 [.c (C.int .i64 xb), .c (C.str xa), .c (C.str xc), .c (C.str xg), .c (C.row 66 xh), .c (C.row 25 xi)]), (129, .box 66 [.c (C.int .i64 xd), .c (C.str xe), .c (C.str xf), .c (C.str xl), .c (C.row 66 xm), .c (C.row 25 xn)])], 131, 82⟩ Bl_d
noncomputable def Bl_l1 (L : Lv) (k : Nat) (xb : Int) (xa xc xg : BA) (xh xi : LL) (xd : Int) (xe xf xl : BA) (xm xn : LL) (m0 : Nat) (v0 : Int) : Option Bool := Ak Ac Try.prog (orK L) kp k 70 (ea Bl_k Bl_c (xb, xa, xc, xg, xh, xi, xd, xe, xf, xl, xm, xn)) [1, 1, 1, 0, 1, 0] [m0] ⟨[(2, .one (.ptr 128 0)), (3, .one (.ptr 129 0)), (6, .one (.c (C.int .i64 v0)))], [(128, .box 66 [.c (C.int .i64 xb), .c (C.str xa), .c (C.str xc), .c (C.str xg), .c (C.row 66 xh), .c (C.row 25 xi)]), (129, .box 66 [.c (C.int .i64 xd), .c (C.str xe), .c (C.str xf), .c (C.str xl), .c (C.row 66 xm), .c (C.row 25 xn)])], 131, 82⟩ Bl_d
noncomputable def B4_b (L : Lv) (k : Nat) : LL → LL → LL → Int → Int → Int → LL → LL → Int → BA → BA → LL → BA → Bool → Bool → BA → Bool → Bool → BA → Option (Bool × Bool × BA) := cur B4_c fun a => As Ac Try.prog (orK L) kp k 13 (ea B4_k B4_c a) B4_d
noncomputable def B4_l0 (L : Lv) (k : Nat) (xb xa xc : LL) (xg xh xi : Int) (xj xk : LL) (xd : Int) (xe xf : BA) (xl : LL) (xm : BA) (xp xq : Bool) (xr : BA) (yn yo : Bool) (yp : BA) (m0 : Nat) (v1 : Int) (v10 v11 v12 : LL) (v13 v14 v15 : Int) (v16 v17 : LL) (v18 : Int) (v19 v20 : BA) (v21 : LL) (v22 : BA) (v23 v24 : Bool) (v25 : BA) (v26 v27 : Bool) (v28 : BA) (v29 : LL) : Option (Bool × Bool × BA) := Ak Ac Try.prog (orK L) kp k 13 (ea B4_k B4_c (xb, xa, xc, xg, xh, xi, xj, xk, xd, xe, xf, xl, xm, xp, xq, xr, yn, yo, yp)) [1, 1, 0, 1, 0] [m0] ⟨[(5, .one (.ptr 256 0)), (8, .one (.ptr 257 0)), (9, .one (.ptr 258 0)), (22, .one (.c (C.int .i64 (xa.length : Int)))), (23, .one (.c (C.int .i64 v1)))], [(256, .box 30 [.c (C.int .i64 xd), .c (C.str xe), .c (C.str xf), .c (C.row 86 xl), .c (C.str xm)]), (257, .box 44 [.c (C.bool false), .c (C.bool false), .c (C.str (⟨#[]⟩ : BA))]), (258, .box 79 [.c (C.row 25 v10), .c (C.row 39 v11), .c (C.row 3 v12), .c (C.int .i64 v13), .c (C.int .i64 v14), .c (C.int .i64 v15), .c (C.row 83 v16), .c (C.row 66 v17), .c (C.int .i64 v18), .c (C.str v19), .c (C.str v20), .c (C.row 86 v21), .c (C.str v22), .c (C.bool v23), .c (C.bool v24), .c (C.str v25), .c (C.bool v26), .c (C.bool v27), .c (C.str v28), .arr 259]), (259, .arr 5 false v29)], 261, 39⟩ B4_d
noncomputable def Ce_b (L : Lv) (k : Nat) : LL → LL → LL → Int → Int → Int → LL → LL → Option Int := cur Ce_c fun a => As Ac Try.prog (orK L) kp k 35 (ea Ce_k Ce_c a) Ce_d
noncomputable def Ce_l0 (L : Lv) (k : Nat) (xb xa xc : LL) (xg xh xi : Int) (xj xk : LL) (m0 : Nat) (v0 v3 : Int) : Option Int := Ak Ac Try.prog (orK L) kp k 35 (ea Ce_k Ce_c (xb, xa, xc, xg, xh, xi, xj, xk)) [1, 1, 0, 1, 0] [m0] ⟨[(3, .one (.c (C.int .i64 v0))), (7, .one (.c (C.row 39 xa))), (8, .one (.c (C.int .i64 (xa.length : Int)))), (9, .one (.c (C.int .i64 v3)))], [], 65, 19⟩ Ce_d
noncomputable def Ao_b (L : Lv) (k : Nat) : LL → LL → LL → Int → Int → Int → LL → LL → Int → BA → BA → LL → BA → Bool → Bool → BA → Bool → Bool → BA → LL → Int → Option (LL × LL × LL × Int × Int × Int × LL × LL × Int × BA × BA × LL × BA × Bool × Bool × BA × Bool × Bool × BA × LL) := cur Ao_c fun a => As Ac Try.prog (orK L) kp k 36 (ea Ao_k Ao_c a) Ao_d
noncomputable def Ao_l0 (L : Lv) (k : Nat) (xb xa xc : LL) (xg xh xi : Int) (xj xk : LL) (xx : Int) (xy xu : BA) (xo : LL) (xv : BA) (xw ya : Bool) (yb : BA) (yc yd : Bool) (ye : BA) (xz : LL) (x1 : Int) (m0 : Nat) (v1 : Bool) (v26 : LL) : Option (LL × LL × LL × Int × Int × Int × LL × LL × Int × BA × BA × LL × BA × Bool × Bool × BA × Bool × Bool × BA × LL) := Ak Ac Try.prog (orK L) kp k 36 (ea Ao_k Ao_c (xb, xa, xc, xg, xh, xi, xj, xk, xx, xy, xu, xo, xv, xw, ya, yb, yc, yd, ye, xz, x1)) [1, 1, 1, 1, 0] [m0] ⟨[(0, .one (.ptr 0 0)), (4, .one (.ptr 129 0)), (5, .one (.c (C.int .i64 (gi (xc.getD x1.toNat []) 0)))), (6, .one (.arr 130)), (7, .one (.c (C.bool v1)))], [(0, .box 79 [.c (C.row 25 xb), .c (C.row 39 xa), .c (C.row 3 xc), .c (C.int .i64 xg), .c (C.int .i64 xh), .c (C.int .i64 xi), .c (C.row 83 xj), .c (C.row 66 xk), .c (C.int .i64 xx), .c (C.str xy), .c (C.str xu), .c (C.row 86 xo), .c (C.str xv), .c (C.bool xw), .c (C.bool ya), .c (C.str yb), .c (C.bool yc), .c (C.bool yd), .c (C.str ye), .arr 131]), (129, .box 39 [.c (C.int .i64 (gi (xa.getD x1.toNat []) 0)), .c (C.int .i64 (gi (xa.getD x1.toNat []) 1)), .c (C.int .i64 (gi (xa.getD x1.toNat []) 2)), .c (C.row 83 (gr (xa.getD x1.toNat []) 3)), .c (C.row 66 (gr (xa.getD x1.toNat []) 4))]), (130, .arr 4 false v26), (131, .arr 5 false (xz.set ((IntKind.i64.wrap ((gi (xc.getD x1.toNat []) 0) + (gi (xa.getD x1.toNat []) 2))).toNat) ((xz.getD ((IntKind.i64.wrap ((gi (xc.getD x1.toNat []) 0) + (gi (xa.getD x1.toNat []) 2))).toNat) []).set 0 (C.int .u8 1))))], 133, 85⟩ Ao_d
noncomputable def Ao_l1 (L : Lv) (k : Nat) (xb xa xc : LL) (xg xh xi : Int) (xj xk : LL) (xx : Int) (xy xu : BA) (xo : LL) (xv : BA) (xw ya : Bool) (yb : BA) (yc yd : Bool) (ye : BA) (xz : LL) (x1 : Int) (m0 m1 : Nat) (v4 : Int) (v29 : LL) : Option (LL × LL × LL × Int × Int × Int × LL × LL × Int × BA × BA × LL × BA × Bool × Bool × BA × Bool × Bool × BA × LL) := Ak Ac Try.prog (orK L) kp k 36 (ea Ao_k Ao_c (xb, xa, xc, xg, xh, xi, xj, xk, xx, xy, xu, xo, xv, xw, ya, yb, yc, yd, ye, xz, x1)) [1, 1, 1, 1, 0, 0, 1, 0, 1, 1, 0] [m0, m1] ⟨[(0, .one (.ptr 0 0)), (4, .one (.ptr 129 0)), (5, .one (.c (C.int .i64 (gi (xc.getD x1.toNat []) 0)))), (6, .one (.arr 130)), (7, .one (.c (C.bool false))), (51, .one (.c (C.row 83 (gr (xa.getD x1.toNat []) 3)))), (52, .one (.c (C.int .i64 ((gr (xa.getD x1.toNat []) 3).length : Int)))), (53, .one (.c (C.int .i64 v4)))], [(0, .box 79 [.c (C.row 25 xb), .c (C.row 39 xa), .c (C.row 3 xc), .c (C.int .i64 xg), .c (C.int .i64 xh), .c (C.int .i64 xi), .c (C.row 83 xj), .c (C.row 66 xk), .c (C.int .i64 xx), .c (C.str xy), .c (C.str xu), .c (C.row 86 xo), .c (C.str xv), .c (C.bool xw), .c (C.bool ya), .c (C.str yb), .c (C.bool yc), .c (C.bool yd), .c (C.str ye), .arr 131]), (129, .box 39 [.c (C.int .i64 (gi (xa.getD x1.toNat []) 0)), .c (C.int .i64 (gi (xa.getD x1.toNat []) 1)), .c (C.int .i64 (gi (xa.getD x1.toNat []) 2)), .c (C.row 83 (gr (xa.getD x1.toNat []) 3)), .c (C.row 66 (gr (xa.getD x1.toNat []) 4))]), (130, .arr 4 false v29), (131, .arr 5 false (xz.set ((IntKind.i64.wrap ((gi (xc.getD x1.toNat []) 0) + (gi (xa.getD x1.toNat []) 2))).toNat) ((xz.getD ((IntKind.i64.wrap ((gi (xc.getD x1.toNat []) 0) + (gi (xa.getD x1.toNat []) 2))).toNat) []).set 0 (C.int .u8 1))))], 133, 85⟩ Ao_d
noncomputable def Ao_l2 (L : Lv) (k : Nat) (xb xa xc : LL) (xg xh xi : Int) (xj xk : LL) (xx : Int) (xy xu : BA) (xo : LL) (xv : BA) (xw ya : Bool) (yb : BA) (yc yd : Bool) (ye : BA) (xz : LL) (x1 : Int) (m0 m1 : Nat) (v1 : Bool) (v4 : Int) (v5 v6 v7 : LL) (v8 v9 v10 : Int) (v11 v12 : LL) (v13 : Int) (v14 v15 : BA) (v16 : LL) (v17 : BA) (v18 v19 : Bool) (v20 : BA) (v21 v22 : Bool) (v23 : BA) (v29 v30 : LL) : Option (LL × LL × LL × Int × Int × Int × LL × LL × Int × BA × BA × LL × BA × Bool × Bool × BA × Bool × Bool × BA × LL) := Ak Ac Try.prog (orK L) kp k 36 (ea Ao_k Ao_c (xb, xa, xc, xg, xh, xi, xj, xk, xx, xy, xu, xo, xv, xw, ya, yb, yc, yd, ye, xz, x1)) [1, 1, 1, 1, 0, 0, 1, 0, 1, 1, 0] [m0, m1] ⟨[(0, .one (.ptr 0 0)), (4, .one (.ptr 129 0)), (5, .one (.c (C.int .i64 (gi (xc.getD x1.toNat []) 0)))), (6, .one (.arr 130)), (7, .one (.c (C.bool v1))), (51, .one (.c (C.row 83 (gr (xa.getD x1.toNat []) 3)))), (52, .one (.c (C.int .i64 ((gr (xa.getD x1.toNat []) 3).length : Int)))), (53, .one (.c (C.int .i64 v4)))], [(0, .box 79 [.c (C.row 25 v5), .c (C.row 39 v6), .c (C.row 3 v7), .c (C.int .i64 v8), .c (C.int .i64 v9), .c (C.int .i64 v10), .c (C.row 83 v11), .c (C.row 66 v12), .c (C.int .i64 v13), .c (C.str v14), .c (C.str v15), .c (C.row 86 v16), .c (C.str v17), .c (C.bool v18), .c (C.bool v19), .c (C.str v20), .c (C.bool v21), .c (C.bool v22), .c (C.str v23), .arr 131]), (129, .box 39 [.c (C.int .i64 (gi (xa.getD x1.toNat []) 0)), .c (C.int .i64 (gi (xa.getD x1.toNat []) 1)), .c (C.int .i64 (gi (xa.getD x1.toNat []) 2)), .c (C.row 83 (gr (xa.getD x1.toNat []) 3)), .c (C.row 66 (gr (xa.getD x1.toNat []) 4))]), (130, .arr 4 true v29), (131, .arr 5 false v30)], 133, 85⟩ Ao_d
noncomputable def Ao_l3 (L : Lv) (k : Nat) (xb xa xc : LL) (xg xh xi : Int) (xj xk : LL) (xx : Int) (xy xu : BA) (xo : LL) (xv : BA) (xw ya : Bool) (yb : BA) (yc yd : Bool) (ye : BA) (xz : LL) (x1 : Int) (m0 : Nat) (v1 : Bool) (v2 v3 v4 : LL) (v5 v6 v7 : Int) (v8 v9 : LL) (v10 : Int) (v11 v12 : BA) (v13 : LL) (v14 : BA) (v15 v16 : Bool) (v17 : BA) (v18 v19 : Bool) (v20 : BA) (v26 v27 : LL) : Option (LL × LL × LL × Int × Int × Int × LL × LL × Int × BA × BA × LL × BA × Bool × Bool × BA × Bool × Bool × BA × LL) := Ak Ac Try.prog (orK L) kp k 36 (ea Ao_k Ao_c (xb, xa, xc, xg, xh, xi, xj, xk, xx, xy, xu, xo, xv, xw, ya, yb, yc, yd, ye, xz, x1)) [1, 1, 1, 1, 0] [m0] ⟨[(0, .one (.ptr 0 0)), (4, .one (.ptr 129 0)), (5, .one (.c (C.int .i64 (gi (xc.getD x1.toNat []) 0)))), (6, .one (.arr 130)), (7, .one (.c (C.bool v1)))], [(0, .box 79 [.c (C.row 25 v2), .c (C.row 39 v3), .c (C.row 3 v4), .c (C.int .i64 v5), .c (C.int .i64 v6), .c (C.int .i64 v7), .c (C.row 83 v8), .c (C.row 66 v9), .c (C.int .i64 v10), .c (C.str v11), .c (C.str v12), .c (C.row 86 v13), .c (C.str v14), .c (C.bool v15), .c (C.bool v16), .c (C.str v17), .c (C.bool v18), .c (C.bool v19), .c (C.str v20), .arr 131]), (129, .box 39 [.c (C.int .i64 (gi (xa.getD x1.toNat []) 0)), .c (C.int .i64 (gi (xa.getD x1.toNat []) 1)), .c (C.int .i64 (gi (xa.getD x1.toNat []) 2)), .c (C.row 83 (gr (xa.getD x1.toNat []) 3)), .c (C.row 66 (gr (xa.getD x1.toNat []) 4))]), (130, .arr 4 true v26), (131, .arr 5 false v27)], 133, 85⟩ Ao_d
noncomputable def Bs_b (L : Lv) (k : Nat) : LL → LL → LL → Int → Int → Int → LL → LL → Int → Int → Int → LL → LL → Int → BA → BA → LL → BA → LL → Option LL := cur Bs_c fun a => As Ac Try.prog (orK L) kp k 43 (ea Bs_k Bs_c a) Bs_d
noncomputable def Bs_l0 (L : Lv) (k : Nat) (xb xa xc : LL) (xg xh xi : Int) (xj xk : LL) (xd xe xf : Int) (xl xm : LL) (xp : Int) (xq xr : BA) (xs : LL) (xt : BA) (x3 : LL) (m0 : Nat) : Option LL := Ak Ac Try.prog (orK L) kp k 43 (ea Bs_k Bs_c (xb, xa, xc, xg, xh, xi, xj, xk, xd, xe, xf, xl, xm, xp, xq, xr, xs, xt, x3)) [1, 1, 1, 0, 1, 0] [m0] ⟨[(9, .one (.ptr 256 0)), (10, .one (.c (C.nil 4))), (19, .one (.c (C.row 66 xm))), (20, .one (.c (C.int .i64 (xm.length : Int)))), (21, .one (.c (C.int .i64 0)))], [(256, .box 112 [.c (C.row 25 xb), .c (C.row 39 xa), .c (C.row 3 xc), .c (C.int .i64 xg), .c (C.int .i64 xh), .c (C.int .i64 xi), .c (C.row 83 xj), .c (C.row 66 xk), .c (C.int .i64 xp), .c (C.str xq), .c (C.str xr), .c (C.row 86 xs), .c (C.str xt), .c (C.row 5 x3)])], 258, 33⟩ Bs_d
noncomputable def Bs_l1 (L : Lv) (k : Nat) (xb xa xc : LL) (xg xh xi : Int) (xj xk : LL) (xd xe xf : Int) (xl xm : LL) (xp : Int) (xq xr : BA) (xs : LL) (xt : BA) (x3 : LL) (m0 : Nat) (v2 : Int) (v3 v4 v5 : LL) (v6 v7 v8 : Int) (v9 v10 : LL) (v11 : Int) (v12 v13 : BA) (v14 : LL) (v15 : BA) (v16 v17 : LL) : Option LL := Ak Ac Try.prog (orK L) kp k 43 (ea Bs_k Bs_c (xb, xa, xc, xg, xh, xi, xj, xk, xd, xe, xf, xl, xm, xp, xq, xr, xs, xt, x3)) [1, 1, 1, 0, 1, 0] [m0] ⟨[(9, .one (.ptr 256 0)), (10, .one (.arr 257)), (19, .one (.c (C.row 66 xm))), (20, .one (.c (C.int .i64 (xm.length : Int)))), (21, .one (.c (C.int .i64 v2)))], [(256, .box 112 [.c (C.row 25 v3), .c (C.row 39 v4), .c (C.row 3 v5), .c (C.int .i64 v6), .c (C.int .i64 v7), .c (C.int .i64 v8), .c (C.row 83 v9), .c (C.row 66 v10), .c (C.int .i64 v11), .c (C.str v12), .c (C.str v13), .c (C.row 86 v14), .c (C.str v15), .c (C.row 5 v16)]), (257, .arr 4 false v17)], 259, 33⟩ Bs_d
noncomputable def C8_b (L : Lv) (k : Nat) : LL → LL → LL → Int → Int → Int → LL → LL → Int → BA → BA → LL → BA → LL → Int → BA → BA → BA → LL → LL → Option (Bool × LL × LL × LL × Int × Int × Int × LL × LL × Int × BA × BA × LL × BA × LL) := cur C8_c fun a => As Ac Try.prog (orK L) kp k 58 (ea C8_k C8_c a) C8_d
noncomputable def B9_b (L : Lv) (k : Nat) : LL → LL → LL → Int → Int → Int → LL → LL → Int → BA → BA → LL → BA → LL → BA → BA → Option (BA × Bool × LL × LL × LL × Int × Int × Int × LL × LL × Int × BA × BA × LL × BA × LL) := cur B9_c fun a => As Ac Try.prog (orK L) kp k 73 (ea B9_k B9_c a) B9_d
noncomputable def B9_l0 (L : Lv) (k : Nat) (xb xa xc : LL) (xg xh xi : Int) (xj xk : LL) (xx : Int) (xy xu : BA) (xo : LL) (xv : BA) (xw : LL) (xd xe : BA) (m0 : Nat) (v2 : Int) : Option (BA × Bool × LL × LL × LL × Int × Int × Int × LL × LL × Int × BA × BA × LL × BA × LL) := Ak Ac Try.prog (orK L) kp k 73 (ea B9_k B9_c (xb, xa, xc, xg, xh, xi, xj, xk, xx, xy, xu, xo, xv, xw, xd, xe)) [1, 0, 1, 0] [m0] ⟨[(0, .one (.ptr 0 0)), (3, .one (.ptr 129 0)), (12, .one (.c (C.row 86 xo))), (13, .one (.c (C.int .i64 (xo.length : Int)))), (14, .one (.c (C.int .i64 v2)))], [(0, .box 112 [.c (C.row 25 xb), .c (C.row 39 xa), .c (C.row 3 xc), .c (C.int .i64 xg), .c (C.int .i64 xh), .c (C.int .i64 xi), .c (C.row 83 xj), .c (C.row 66 xk), .c (C.int .i64 xx), .c (C.str xy), .c (C.str xu), .c (C.row 86 xo), .c (C.str xv), .c (C.row 5 xw)]), (129, .box 27 [.c (C.str xd), .c (C.str xe)])], 131, 31⟩ B9_d
noncomputable def Cv_b (L : Lv) (k : Nat) : LL → LL → LL → LL → Int → Int → Int → LL → LL → Int → BA → BA → LL → BA → LL → Option Bool := cur Cv_c fun a => As Ac Try.prog (orK L) kp k 74 (ea Cv_k Cv_c a) Cv_d
noncomputable def Cw_b (L : Lv) (k : Nat) : LL → LL → LL → LL → Int → Int → Int → LL → LL → Int → BA → BA → LL → BA → LL → Option Bool := cur Cw_c fun a => As Ac Try.prog (orK L) kp k 74 (ea Cw_k Cw_c a) Cw_d
noncomputable def Cx_b (L : Lv) (k : Nat) : LL → LL → LL → LL → Int → Int → Int → LL → LL → Int → BA → BA → LL → BA → LL → Option Bool := cur Cx_c fun a => As Ac Try.prog (orK L) kp k 76 (ea Cx_k Cx_c a) Cx_d
noncomputable def Cg_b (L : Lv) (k : Nat) : LL → LL → LL → LL → Int → Int → Int → LL → LL → Int → BA → BA → LL → BA → LL → Option Int := cur Cg_c fun a => As Ac Try.prog (orK L) kp k 90 (ea Cg_k Cg_c a) Cg_d
noncomputable def Cg_l0 (L : Lv) (k : Nat) (x0 xd xe xf : LL) (xl xm xn : Int) (yj yk : LL) (yl : Int) (ym yf : BA) (yg : LL) (yh : BA) (yi : LL) (m0 : Nat) (v3 : Int) : Option Int := Ak Ac Try.prog (orK L) kp k 90 (ea Cg_k Cg_c (x0, xd, xe, xf, xl, xm, xn, yj, yk, yl, ym, yf, yg, yh, yi)) [1, 0, 1, 0] [m0] ⟨[(0, .one (.c (C.row 66 x0))), (1, .fnr 75 true 112 [C.row 25 xd, C.row 39 xe, C.row 3 xf, C.int .i64 xl, C.int .i64 xm, C.int .i64 xn, C.row 83 yj, C.row 66 yk, C.int .i64 yl, C.str ym, C.str yf, C.row 86 yg, C.str yh, C.row 5 yi] 0), (7, .one (.c (C.int .i64 (x0.length : Int)))), (8, .one (.c (C.int .i64 v3)))], [], 129, 19⟩ Cg_d
noncomputable def Ch_b (L : Lv) (k : Nat) : LL → LL → LL → LL → Int → Int → Int → LL → LL → Int → BA → BA → LL → BA → LL → Option Int := cur Ch_c fun a => As Ac Try.prog (orK L) kp k 90 (ea Ch_k Ch_c a) Ch_d
noncomputable def Ch_l0 (L : Lv) (k : Nat) (x0 xd xe xf : LL) (xl xm xn : Int) (yj yk : LL) (yl : Int) (ym yf : BA) (yg : LL) (yh : BA) (yi : LL) (m0 : Nat) (v3 : Int) : Option Int := Ak Ac Try.prog (orK L) kp k 90 (ea Ch_k Ch_c (x0, xd, xe, xf, xl, xm, xn, yj, yk, yl, ym, yf, yg, yh, yi)) [1, 0, 1, 0] [m0] ⟨[(0, .one (.c (C.row 66 x0))), (1, .fnr 58 true 112 [C.row 25 xd, C.row 39 xe, C.row 3 xf, C.int .i64 xl, C.int .i64 xm, C.int .i64 xn, C.row 83 yj, C.row 66 yk, C.int .i64 yl, C.str ym, C.str yf, C.row 86 yg, C.str yh, C.row 5 yi] 0), (7, .one (.c (C.int .i64 (x0.length : Int)))), (8, .one (.c (C.int .i64 v3)))], [], 129, 19⟩ Ch_d
noncomputable def Ci_b (L : Lv) (k : Nat) : LL → LL → LL → LL → Int → Int → Int → LL → LL → Int → BA → BA → LL → BA → LL → Option Int := cur Ci_c fun a => As Ac Try.prog (orK L) kp k 91 (ea Ci_k Ci_c a) Ci_d
noncomputable def Ci_l0 (L : Lv) (k : Nat) (x0 xd xe xf : LL) (xl xm xn : Int) (yj yk : LL) (yl : Int) (ym yf : BA) (yg : LL) (yh : BA) (yi : LL) (m0 : Nat) (v3 : Int) : Option Int := Ak Ac Try.prog (orK L) kp k 91 (ea Ci_k Ci_c (x0, xd, xe, xf, xl, xm, xn, yj, yk, yl, ym, yf, yg, yh, yi)) [1, 0, 1, 0] [m0] ⟨[(0, .one (.c (C.row 25 x0))), (1, .fnr 77 true 112 [C.row 25 xd, C.row 39 xe, C.row 3 xf, C.int .i64 xl, C.int .i64 xm, C.int .i64 xn, C.row 83 yj, C.row 66 yk, C.int .i64 yl, C.str ym, C.str yf, C.row 86 yg, C.str yh, C.row 5 yi] 0), (7, .one (.c (C.int .i64 (x0.length : Int)))), (8, .one (.c (C.int .i64 v3)))], [], 129, 19⟩ Ci_d
noncomputable def Dw_b (L : Lv) (k : Nat) : LL → LL → LL → Int → Int → Int → LL → LL → Int → BA → BA → LL → BA → LL → Int → BA → BA → BA → LL → LL → Option Bool := cur Dw_c fun a => As Ac Try.prog (orK L) kp k 75 (ea Dw_k Dw_c a) Dw_d
noncomputable def C9_b (L : Lv) (k : Nat) : LL → LL → LL → Int → Int → Int → LL → LL → Int → BA → BA → LL → BA → LL → Int → BA → BA → BA → LL → LL → Option Bool := cur C9_c fun a => As Ac Try.prog (orK L) kp k 58 (ea C9_k C9_c a) C9_d
noncomputable def Dn_b (L : Lv) (k : Nat) : LL → LL → LL → Int → Int → Int → LL → LL → Int → BA → BA → LL → BA → LL → Int → LL → LL → Option Bool := cur Dn_c fun a => As Ac Try.prog (orK L) kp k 77 (ea Dn_k Dn_c a) Dn_d
noncomputable def Ca_b (L : Lv) (k : Nat) : LL → LL → LL → Int → Int → Int → LL → LL → Int → BA → BA → LL → BA → LL → BA → BA → Option (BA × Bool) := cur Ca_c fun a => As Ac Try.prog (orK L) kp k 73 (ea Ca_k Ca_c a) Ca_d
noncomputable def Ca_l0 (L : Lv) (k : Nat) (xb xa xc : LL) (xg xh xi : Int) (xj xk : LL) (xx : Int) (xy xu : BA) (xo : LL) (xv : BA) (xw : LL) (xd xe : BA) (m0 : Nat) (v3 : Int) : Option (BA × Bool) := Ak Ac Try.prog (orK L) kp k 73 (ea Ca_k Ca_c (xb, xa, xc, xg, xh, xi, xj, xk, xx, xy, xu, xo, xv, xw, xd, xe)) [1, 0, 1, 0] [m0] ⟨[(0, .one (.rop 112 [C.row 25 xb, C.row 39 xa, C.row 3 xc, C.int .i64 xg, C.int .i64 xh, C.int .i64 xi, C.row 83 xj, C.row 66 xk, C.int .i64 xx, C.str xy, C.str xu, C.row 86 xo, C.str xv, C.row 5 xw] 0)), (3, .one (.ptr 128 0)), (12, .one (.c (C.row 86 xo))), (13, .one (.c (C.int .i64 (xo.length : Int)))), (14, .one (.c (C.int .i64 v3)))], [(128, .box 27 [.c (C.str xd), .c (C.str xe)])], 130, 31⟩ Ca_d
noncomputable def Dm_b (L : Lv) (k : Nat) : LL → LL → LL → Int → Int → Int → LL → LL → Int → LL → LL → Option Int := cur Dm_c fun a => As Ac Try.prog (orK L) kp k 92 (ea Dm_k Dm_c a) Dm_d
noncomputable def Cj_b (L : Lv) (k : Nat) : LL → Int → LL → LL → Option Int := cur Cj_c fun a => As Ac Try.prog (orK L) kp k 91 (ea Cj_k Cj_c a) Cj_d
noncomputable def Cj_l0 (L : Lv) (k : Nat) (x0 : LL) (xd : Int) (xe xf : LL) (m0 : Nat) (v3 : Int) : Option Int := Ak Ac Try.prog (orK L) kp k 91 (ea Cj_k Cj_c (x0, xd, xe, xf)) [1, 0, 1, 0] [m0] ⟨[(0, .one (.c (C.row 25 x0))), (1, .fnr 101 false 25 [C.int .i64 xd, C.row 25 xe, C.row 66 xf] 0), (7, .one (.c (C.int .i64 (x0.length : Int)))), (8, .one (.c (C.int .i64 v3)))], [], 129, 19⟩ Cj_d
noncomputable def Dv_b (L : Lv) (k : Nat) : Int → LL → LL → Int → LL → LL → Option Bool := cur Dv_c fun a => As Ac Try.prog (orK L) kp k 101 (ea Dv_k Dv_c a) Dv_d
noncomputable def C5_b (L : Lv) (k : Nat) : Int → LL → LL → Int → LL → LL → Option Bool := cur C5_c fun a => As Ac Try.prog (orK L) kp k 102 (ea C5_k C5_c a) C5_d
noncomputable def B7_b (L : Lv) (k : Nat) : LL → LL → Option Bool := cur B7_c fun a => As Ac Try.prog (orK L) kp k 108 (ea B7_k B7_c a) B7_d
noncomputable def B7_l0 (L : Lv) (k : Nat) (x0 x1 : LL) (m0 : Nat) (v3 : Int) : Option Bool := Ak Ac Try.prog (orK L) kp k 108 (ea B7_k B7_c (x0, x1)) [1, 1, 0, 1, 0] [m0] ⟨[(1, .one (.c (C.row 25 x1))), (2, .fn 102), (15, .one (.c (C.row 25 x0))), (16, .one (.c (C.int .i64 (x0.length : Int)))), (17, .one (.c (C.int .i64 v3)))], [], 193, 32⟩ B7_d
noncomputable def At_b (L : Lv) (k : Nat) : LL → LL → LL → Int → Int → Int → LL → LL → LL → Option LL := cur At_c fun a => As Ac Try.prog (orK L) kp k 16 (ea At_k At_c a) At_d
noncomputable def At_l0 (L : Lv) (k : Nat) (xb xa xc : LL) (xg xh xi : Int) (xj xk x1 : LL) (m0 : Nat) (v1 v2 : Int) (v11 v12 : LL) : Option LL := Ak Ac Try.prog (orK L) kp k 16 (ea At_k At_c (xb, xa, xc, xg, xh, xi, xj, xk, x1)) [1, 1, 1, 1, 1, 0, 1, 0] [m0] ⟨[(1, .one (.c (C.row 30 x1))), (2, .one (.ptr 128 0)), (5, .one (.arr 129)), (6, .one (.c (C.int .i64 v1))), (7, .one (.arr 130)), (8, .one (.c (C.int .i64 v2)))], [(128, .box 41 [.c (C.row 25 xb), .c (C.row 39 xa), .c (C.row 3 xc), .c (C.int .i64 xg), .c (C.int .i64 xh), .c (C.int .i64 xi), .c (C.row 83 xj), .c (C.row 66 xk)]), (129, .arr 44 false v11), (130, .arr 44 false v12)], 132, 82⟩ At_d
noncomputable def At_l1 (L : Lv) (k : Nat) (xb xa xc : LL) (xg xh xi : Int) (xj xk x1 : LL) (m0 : Nat) (v1 : Int) (v3 : Nat) (v4 v5 : Int) (v14 v15 : LL) (v16 v17 : Bool) (v18 : BA) : Option LL := Ak Ac Try.prog (orK L) kp k 16 (ea At_k At_c (xb, xa, xc, xg, xh, xi, xj, xk, x1)) [1, 1, 1, 1, 1, 0, 1, 0, 0, 1, 0, 0, 1, 1, 1, 1, 1, 0] [m0] ⟨[(1, .one (.c (C.row 30 x1))), (2, .one (.ptr 128 0)), (5, .one (.arr 129)), (6, .one (.c (C.int .i64 v1))), (7, .one (.sub 130 0 v3)), (8, .one (.c (C.int .i64 v4))), (9, .one (.c (C.int .i64 v5))), (10, .one (.ptr 131 0))], [(128, .box 41 [.c (C.row 25 xb), .c (C.row 39 xa), .c (C.row 3 xc), .c (C.int .i64 xg), .c (C.int .i64 xh), .c (C.int .i64 xi), .c (C.row 83 xj), .c (C.row 66 xk)]), (129, .arr 44 false v14), (130, .arr 44 false v15), (131, .box 44 [.c (C.bool v16), .c (C.bool v17), .c (C.str v18)])], 133, 82⟩ At_d
noncomputable def At_l2 (L : Lv) (k : Nat) (xb xa xc : LL) (xg xh xi : Int) (xj xk x1 : LL) (m0 : Nat) (v1 v2 v3 : Int) (v12 v13 : LL) : Option LL := Ak Ac Try.prog (orK L) kp k 16 (ea At_k At_c (xb, xa, xc, xg, xh, xi, xj, xk, x1)) [1, 1, 1, 1, 1, 0, 1, 0, 0, 1, 0, 0, 1, 1, 1, 1, 1, 0] [m0] ⟨[(1, .one (.c (C.row 30 x1))), (2, .one (.ptr 128 0)), (5, .one (.arr 129)), (6, .one (.c (C.int .i64 v1))), (7, .one (.arr 130)), (8, .one (.c (C.int .i64 v2))), (9, .one (.c (C.int .i64 v3))), (10, .one (.ptr 131 0))], [(128, .box 41 [.c (C.row 25 xb), .c (C.row 39 xa), .c (C.row 3 xc), .c (C.int .i64 xg), .c (C.int .i64 xh), .c (C.int .i64 xi), .c (C.row 83 xj), .c (C.row 66 xk)]), (129, .arr 44 false v12), (130, .arr 44 false v13), (131, .box 44 [.c (C.bool false), .c (C.bool false), .c (C.str (⟨#[]⟩ : BA))])], 133, 82⟩ At_d
noncomputable def At_l3 (L : Lv) (k : Nat) (xb xa xc : LL) (xg xh xi : Int) (xj xk x1 : LL) (m0 : Nat) (v1 : Int) (v3 : Nat) (v4 : Int) (v13 v14 : LL) : Option LL := Ak Ac Try.prog (orK L) kp k 16 (ea At_k At_c (xb, xa, xc, xg, xh, xi, xj, xk, x1)) [1, 1, 1, 1, 1, 0, 1, 0] [m0] ⟨[(1, .one (.c (C.row 30 x1))), (2, .one (.ptr 128 0)), (5, .one (.arr 129)), (6, .one (.c (C.int .i64 v1))), (7, .one (.sub 130 0 v3)), (8, .one (.c (C.int .i64 v4)))], [(128, .box 41 [.c (C.row 25 xb), .c (C.row 39 xa), .c (C.row 3 xc), .c (C.int .i64 xg), .c (C.int .i64 xh), .c (C.int .i64 xi), .c (C.row 83 xj), .c (C.row 66 xk)]), (129, .arr 44 false v13), (130, .arr 44 false v14)], 132, 82⟩ At_d
noncomputable def Dd_b (L : Lv) (k : Nat) : LL → LL → LL → Int → Int → Int → LL → LL → Int → BA → BA → LL → BA → Bool → Bool → BA → Bool → Bool → BA → LL → Int → Int → Int → Int → Int → LL → Option (Bool × LL × LL × LL × Int × Int × Int × LL × LL × Int × BA × BA × LL × BA × Bool × Bool × BA × Bool × Bool × BA × LL) := cur Dd_c fun a => As Ac Try.prog (orK L) kp k 55 (ea Dd_k Dd_c a) Dd_d
noncomputable def B6_b (L : Lv) (k : Nat) : LL → LL → Option Bool := cur B6_c fun a => As Ac Try.prog (orK L) kp k 109 (ea B6_k B6_c a) B6_d
noncomputable def B6_l0 (L : Lv) (k : Nat) (x0 x1 : LL) (m0 : Nat) (v3 : Int) : Option Bool := Ak Ac Try.prog (orK L) kp k 109 (ea B6_k B6_c (x0, x1)) [1, 1, 0, 1, 0] [m0] ⟨[(1, .one (.c (C.row 66 x1))), (2, .fn 110), (15, .one (.c (C.row 66 x0))), (16, .one (.c (C.int .i64 (x0.length : Int)))), (17, .one (.c (C.int .i64 v3)))], [], 193, 32⟩ B6_d
noncomputable def Dr_b (L : Lv) (k : Nat) : LL → Option Bool := cur Dr_c fun a => As Ac Try.prog (orK L) kp k 39 (ea Dr_k Dr_c a) Dr_d
noncomputable def Dc_b (L : Lv) (k : Nat) : Bool → Bool → BA → Int → Option Bool := cur Dc_c fun a => As Ac Try.prog (orK L) kp k 71 (ea Dc_k Dc_c a) Dc_d
noncomputable def Dl_b (L : Lv) (k : Nat) : Int → BA → BA → BA → LL → LL → Int → BA → BA → BA → LL → LL → Option Bool := cur Dl_c fun a => As Ac Try.prog (orK L) kp k 110 (ea Dl_k Dl_c a) Dl_d
noncomputable def A9_b (L : Lv) (k : Nat) : LL → Option Bool := cur A9_c fun a => As Ac Try.prog (orK L) kp k 56 (ea A9_k A9_c a) A9_d
noncomputable def A9_l0 (L : Lv) (k : Nat) (x0 : LL) (m0 : Nat) (v1 v4 : Int) : Option Bool := Ak Ac Try.prog (orK L) kp k 56 (ea A9_k A9_c x0) [1, 1, 0, 1, 0] [m0] ⟨[(0, .one (.c (C.row 30 x0))), (3, .one (.c (C.int .i64 v1))), (6, .one (.c (C.row 30 x0))), (7, .one (.c (C.int .i64 (x0.length : Int)))), (8, .one (.c (C.int .i64 v4)))], [], 65, 60⟩ A9_d
noncomputable def A9_l1 (L : Lv) (k : Nat) (x0 : LL) (m0 : Nat) (v1 v4 v5 : Int) : Option Bool := Ak Ac Try.prog (orK L) kp k 56 (ea A9_k A9_c x0) [1, 1, 0, 1, 0, 0, 1, 1, 0, 0, 1, 1, 0, 1, 0, 0] [m0] ⟨[(0, .one (.c (C.row 30 x0))), (3, .one (.c (C.int .i64 v1))), (6, .one (.c (C.row 30 x0))), (7, .one (.c (C.int .i64 (x0.length : Int)))), (8, .one (.c (C.int .i64 v4))), (48, .one (.c (C.int .i64 v5)))], [], 65, 60⟩ A9_d
noncomputable def Dq_b (L : Lv) (k : Nat) : Int → BA → BA → LL → BA → Option Bool := cur Dq_c fun a => As Ac Try.prog (orK L) kp k 72 (ea Dq_k Dq_c a) Dq_d
noncomputable def Df_b (L : Lv) (k : Nat) : BA → BA → Option Bool := cur Df_c fun a => As Ac Try.prog (orK L) kp k 87 (ea Df_k Df_c a) Df_d
noncomputable def C3_b (L : Lv) (k : Nat) : BA → Option Bool := cur C3_c fun a => As Ac Try.prog (orK L) kp k 89 (ea C3_k C3_c a) C3_d
noncomputable def B1_b (L : Lv) (k : Nat) : BA → Option Bool := cur B1_c fun a => As Ac Try.prog (orK L) kp k 97 (ea B1_k B1_c a) B1_d
noncomputable def B1_l0 (L : Lv) (k : Nat) (x0 : BA) (m0 v2 : Nat) : Option Bool := Ak Ac Try.prog (orK L) kp k 97 (ea B1_k B1_c x0) [1, 0, 1, 0] [m0] ⟨[(0, .one (.c (C.str x0))), (6, .itr 64)], [(64, .iter x0 v2)], 66, 25⟩ B1_d
noncomputable def Bv_b (L : Lv) (k : Nat) : BA → Option (LL × Int × Int) := cur Bv_c fun a => As Ac Try.prog (orK L) kp k 98 (ea Bv_k Bv_c a) Bv_d
noncomputable def Bv_l0 (L : Lv) (k : Nat) (x0 : BA) (m0 : Nat) : Option (LL × Int × Int) := Ak Ac Try.prog (orK L) kp k 98 (ea Bv_k Bv_c x0) [1, 1, 1, 0, 0] [m0] ⟨[(0, .one (.c (C.str x0))), (5, .one (.c (C.nil 21))), (6, .one (.c (C.int .i64 0)))], [], 65, 35⟩ Bv_d
noncomputable def Bv_l1 (L : Lv) (k : Nat) (x0 : BA) (m0 : Nat) (v1 : Int) (v2 : LL) : Option (LL × Int × Int) := Ak Ac Try.prog (orK L) kp k 98 (ea Bv_k Bv_c x0) [1, 1, 1, 0, 0] [m0] ⟨[(0, .one (.c (C.str x0))), (5, .one (.arr 64)), (6, .one (.c (C.int .i64 v1)))], [(64, .arr 21 false v2)], 66, 35⟩ Bv_d
noncomputable def Db_b (L : Lv) (k : Nat) : Int → Option Bool := cur Db_c fun a => As Ac Try.prog (orK L) kp k 103 (ea Db_k Db_c a) Db_d
noncomputable def An_b (L : Lv) (k : Nat) : BA → Int → Option (Int × Int × Int) := cur An_c fun a => As Ac Try.prog (orK L) kp k 105 (ea An_k An_c a) An_d
noncomputable def An_l0 (L : Lv) (k : Nat) (x0 : BA) (x1 : Int) (m0 : Nat) (v2 v3 v4 v5 v6 v7 v8 v9 v10 v11 v12 v13 v14 : Int) : Option (Int × Int × Int) := Ak Ac Try.prog (orK L) kp k 105 (ea An_k An_c (x0, x1)) [1, 1, 0, 1, 0] [m0] ⟨[(0, .one (.c (C.str x0))), (1, .one (.c (C.int .i64 x1))), (21, .agg [.c (C.int .u8 v2), .c (C.int .u8 v3), .c (C.int .i32 v4), .c (C.int .u8 v5), .c (C.int .u8 v6), .c (C.int .i32 v7), .c (C.int .u8 v8), .c (C.int .u8 v9), .c (C.int .i32 v10), .c (C.int .u8 v11), .c (C.int .u8 v12), .c (C.int .i32 v13)]), (22, .one (.c (C.int .i64 v14)))], [], 129, 115⟩ An_d
noncomputable def An_l1 (L : Lv) (k : Nat) (x0 : BA) (x1 : Int) (m0 : Nat) (v2 v3 v4 v5 v6 v7 v8 v9 v10 v11 v12 v13 v14 v15 v16 v17 v18 : Int) : Option (Int × Int × Int) := Ak Ac Try.prog (orK L) kp k 105 (ea An_k An_c (x0, x1)) [1, 1, 0, 1, 0, 0, 1, 1, 0, 0, 1, 0, 0] [m0] ⟨[(0, .one (.c (C.str x0))), (1, .one (.c (C.int .i64 x1))), (7, .one (.c (C.int .i64 v2))), (8, .one (.ptr 128 0)), (21, .agg [.c (C.int .u8 v3), .c (C.int .u8 v4), .c (C.int .i32 v5), .c (C.int .u8 v6), .c (C.int .u8 v7), .c (C.int .i32 v8), .c (C.int .u8 v9), .c (C.int .u8 v10), .c (C.int .i32 v11), .c (C.int .u8 v12), .c (C.int .u8 v13), .c (C.int .i32 v14)]), (22, .one (.c (C.int .i64 v15)))], [(128, .box 158 [.c (C.int .u8 v16), .c (C.int .u8 v17), .c (C.int .i32 v18)])], 130, 115⟩ An_d
noncomputable def An_l2 (L : Lv) (k : Nat) (x0 : BA) (x1 : Int) (m0 m1 : Nat) (v2 v3 v4 v5 v6 v7 : Int) : Option (Int × Int × Int) := Ak Ac Try.prog (orK L) kp k 105 (ea An_k An_c (x0, x1)) [1, 1, 0, 1, 0, 0, 1, 1, 0, 0, 1, 1, 1, 1, 0, 0] [m0, m1] ⟨[(0, .one (.c (C.str x0))), (1, .one (.c (C.int .i64 x1))), (7, .one (.c (C.int .i64 v2))), (8, .one (.ptr 128 0)), (9, .one (.c (C.int .i32 v3))), (10, .one (.c (C.int .i64 v4)))], [(128, .box 158 [.c (C.int .u8 v5), .c (C.int .u8 v6), .c (C.int .i32 v7)])], 130, 115⟩ An_d
noncomputable def An_l3 (L : Lv) (k : Nat) (x0 : BA) (x1 : Int) (m0 : Nat) (v2 v3 v4 v5 v6 v7 : Int) : Option (Int × Int × Int) := Ak Ac Try.prog (orK L) kp k 105 (ea An_k An_c (x0, x1)) [1, 1, 0, 1, 0, 0, 1, 1, 0, 0, 1, 1, 1, 1, 1, 0] [m0] ⟨[(0, .one (.c (C.str x0))), (1, .one (.c (C.int .i64 x1))), (7, .one (.c (C.int .i64 v2))), (8, .one (.ptr 128 0)), (9, .one (.c (C.int .i32 v3))), (10, .one (.c (C.int .i64 v4)))], [(128, .box 158 [.c (C.int .u8 v5), .c (C.int .u8 v6), .c (C.int .i32 v7)])], 130, 115⟩ An_d
noncomputable def B0_b (L : Lv) (k : Nat) : Int → LL → Option Bool := cur B0_c fun a => As Ac Try.prog (orK L) kp k 107 (ea B0_k B0_c a) B0_d
noncomputable def B0_l0 (L : Lv) (k : Nat) (x0 : Int) (x1 : LL) (m0 : Nat) (v3 : Int) : Option Bool := Ak Ac Try.prog (orK L) kp k 107 (ea B0_k B0_c (x0, x1)) [1, 0, 1, 0] [m0] ⟨[(0, .one (.c (C.int .i32 x0))), (7, .one (.c (C.row 153 x1))), (8, .one (.c (C.int .i64 (x1.length : Int)))), (9, .one (.c (C.int .i64 v3)))], [], 129, 24⟩ B0_d
noncomputable def Do_b (L : Lv) (k : Nat) : Option (Int × Int × Int × Int × Int × Int × Int × Int × Int × Int × Int × Int) := cur Do_c fun a => As Ac Try.prog (orK L) kp k 111 (ea Do_k Do_c a) Do_d
noncomputable def Bp_b (L : Lv) (k : Nat) : LL → Option LL := cur Bp_c fun a => As Ac Try.prog (orK L) kp k 40 (ea Bp_k Bp_c a) Bp_d
noncomputable def Bp_l0 (L : Lv) (k : Nat) (x0 : LL) (m0 : Nat) (v2 : Int) : Option LL := Ak Ac Try.prog (orK L) kp k 40 (ea Bp_k Bp_c x0) [1, 1, 1, 0, 1, 0] [m0] ⟨[(3, .one (.c (C.nil 3))), (9, .one (.c (C.row 30 x0))), (10, .one (.c (C.int .i64 (x0.length : Int)))), (11, .one (.c (C.int .i64 v2)))], [], 65, 25⟩ Bp_d
noncomputable def Bp_l1 (L : Lv) (k : Nat) (x0 : LL) (m0 : Nat) (v2 : Int) (v3 : LL) : Option LL := Ak Ac Try.prog (orK L) kp k 40 (ea Bp_k Bp_c x0) [1, 1, 1, 0, 1, 0] [m0] ⟨[(3, .one (.arr 64)), (9, .one (.c (C.row 30 x0))), (10, .one (.c (C.int .i64 (x0.length : Int)))), (11, .one (.c (C.int .i64 v2)))], [(64, .arr 3 false v3)], 66, 25⟩ Bp_d
noncomputable def B5_b (L : Lv) (k : Nat) : LL → Option Int := cur B5_c fun a => As Ac Try.prog (orK L) kp k 57 (ea B5_k B5_c a) B5_d
noncomputable def B5_l0 (L : Lv) (k : Nat) (x0 : LL) (m0 : Nat) (v0 v3 : Int) : Option Int := Ak Ac Try.prog (orK L) kp k 57 (ea B5_k B5_c x0) [1, 1, 1, 0, 1, 0] [m0] ⟨[(3, .one (.c (C.int .i64 v0))), (9, .one (.c (C.row 30 x0))), (10, .one (.c (C.int .i64 (x0.length : Int)))), (11, .one (.c (C.int .i64 v3)))], [], 65, 27⟩ B5_d
noncomputable def Bi_b (L : Lv) (k : Nat) : BA → Option Bool := cur Bi_c fun a => As Ac Try.prog (orK L) kp k 99 (ea Bi_k Bi_c a) Bi_d
noncomputable def Bi_l0 (L : Lv) (k : Nat) (x0 : BA) (m0 v1 : Nat) : Option Bool := Ak Ac Try.prog (orK L) kp k 99 (ea Bi_k Bi_c x0) [1, 0, 1, 0] [m0] ⟨[(1, .one (.c (C.row 147 [[C.fn (some 100)]]))), (11, .itr 128)], [(128, .iter x0 v1)], 130, 30⟩ Bi_d
noncomputable def Bi_l1 (L : Lv) (k : Nat) (x0 : BA) (m0 m1 : Nat) (v0 : Int) (v1 : Bool) (v3 : Int) (v5 : Nat) : Option Bool := Ak Ac Try.prog (orK L) kp k 99 (ea Bi_k Bi_c x0) [1, 0, 1, 0, 0, 1, 1, 0, 1, 1, 0, 1, 0] [m0, m1] ⟨[(1, .one (.c (C.row 147 [[C.fn (some 100)]]))), (6, .one (.c (C.int .i32 v0))), (7, .one (.c (C.bool v1))), (11, .itr 128), (15, .one (.c (C.row 147 [[C.fn (some 100)]]))), (16, .one (.c (C.int .i64 1))), (17, .one (.c (C.int .i64 v3)))], [(128, .iter x0 v5)], 130, 30⟩ Bi_d
noncomputable def Dp_b (L : Lv) (k : Nat) : Int → Int → Option (Int × Int) := cur Dp_c fun a => As Ac Try.prog (orK L) kp k 112 (ea Dp_k Dp_c a) Dp_d
noncomputable def Dh_b (L : Lv) (k : Nat) : Int → Option Bool := cur Dh_c fun a => As Ac Try.prog (orK L) kp k 100 (ea Dh_k Dh_c a) Dh_d
noncomputable def Dg_b (L : Lv) (k : Nat) : Int → Option Bool := cur Dg_c fun a => As Ac Try.prog (orK L) kp k 106 (ea Dg_k Dg_c a) Dg_d
noncomputable def Co_b (L : Lv) (k : Nat) : LL → LL → LL → Int → Int → Int → LL → LL → Int → Int → Int → LL → LL → Int → BA → BA → LL → BA → Bool → Bool → BA → LL → Option LL := cur Co_c fun a => As Ac Try.prog (orK L) kp k 20 (ea Co_k Co_c a) Co_d
noncomputable def Co_l0 (L : Lv) (k : Nat) (xb xa xc : LL) (xg xh xi : Int) (xj xk : LL) (xd xe xf : Int) (xl xm : LL) (xp : Int) (xq xr : BA) (xs : LL) (xt : BA) (yn yo : Bool) (yp : BA) (x4 : LL) (m0 : Nat) (v0 : Bool) (v6 v7 : LL) : Option LL := Ak Ac Try.prog (orK L) kp k 20 (ea Co_k Co_c (xb, xa, xc, xg, xh, xi, xj, xk, xd, xe, xf, xl, xm, xp, xq, xr, xs, xt, yn, yo, yp, x4)) [1, 1, 1, 0, 1, 0] [m0] ⟨[(6, .one (.ptr 320 0)), (11, .one (.arr 321)), (12, .one (.arr 322)), (13, .one (.c (C.bool v0)))], [(320, .box 39 [.c (C.int .i64 xd), .c (C.int .i64 xe), .c (C.int .i64 xf), .c (C.row 83 xl), .c (C.row 66 xm)]), (321, .arr 4 false v6), (322, .arr 4 false v7)], 324, 72⟩ Co_d
noncomputable def Co_l1 (L : Lv) (k : Nat) (xb xa xc : LL) (xg xh xi : Int) (xj xk : LL) (xd xe xf : Int) (xl xm : LL) (xp : Int) (xq xr : BA) (xs : LL) (xt : BA) (yn yo : Bool) (yp : BA) (x4 : LL) (m0 m1 : Nat) (v0 : Bool) (v3 : Int) (v9 v10 : LL) : Option LL := Ak Ac Try.prog (orK L) kp k 20 (ea Co_k Co_c (xb, xa, xc, xg, xh, xi, xj, xk, xd, xe, xf, xl, xm, xp, xq, xr, xs, xt, yn, yo, yp, x4)) [1, 1, 1, 0, 1, 0, 0, 1, 0, 1, 1, 0] [m0, m1] ⟨[(6, .one (.ptr 320 0)), (11, .one (.arr 321)), (12, .one (.arr 322)), (13, .one (.c (C.bool v0))), (29, .one (.c (C.row 83 xl))), (30, .one (.c (C.int .i64 (xl.length : Int)))), (31, .one (.c (C.int .i64 v3)))], [(320, .box 39 [.c (C.int .i64 xd), .c (C.int .i64 xe), .c (C.int .i64 xf), .c (C.row 83 xl), .c (C.row 66 xm)]), (321, .arr 4 false v9), (322, .arr 4 false v10)], 324, 72⟩ Co_d
noncomputable def Co_l2 (L : Lv) (k : Nat) (xb xa xc : LL) (xg xh xi : Int) (xj xk : LL) (xd xe xf : Int) (xl xm : LL) (xp : Int) (xq xr : BA) (xs : LL) (xt : BA) (yn yo : Bool) (yp : BA) (x4 : LL) (m0 m1 : Nat) (v0 v1 : Bool) (v4 : Int) (v10 v11 : LL) (v12 v13 v14 v15 : Int) : Option LL := Ak Ac Try.prog (orK L) kp k 20 (ea Co_k Co_c (xb, xa, xc, xg, xh, xi, xj, xk, xd, xe, xf, xl, xm, xp, xq, xr, xs, xt, yn, yo, yp, x4)) [1, 1, 1, 0, 1, 0, 0, 1, 0, 1, 1, 0, 0, 1, 1, 0, 0, 1, 1, 0] [m0, m1] ⟨[(6, .one (.ptr 320 0)), (11, .one (.arr 321)), (12, .one (.arr 322)), (13, .one (.c (C.bool v0))), (15, .one (.ptr 323 0)), (16, .one (.c (C.bool v1))), (29, .one (.c (C.row 83 xl))), (30, .one (.c (C.int .i64 (xl.length : Int)))), (31, .one (.c (C.int .i64 v4)))], [(320, .box 39 [.c (C.int .i64 xd), .c (C.int .i64 xe), .c (C.int .i64 xf), .c (C.row 83 xl), .c (C.row 66 xm)]), (321, .arr 4 false v10), (322, .arr 4 false v11), (323, .box 83 [.c (C.int .i64 v12), .c (C.int .i64 v13), .c (C.int .i64 v14), .c (C.int .i64 v15)])], 325, 72⟩ Co_d
noncomputable def Cf_b (L : Lv) (k : Nat) : LL → Option Bool := cur Cf_c fun a => As Ac Try.prog (orK L) kp k 88 (ea Cf_k Cf_c a) Cf_d
noncomputable def Cf_l0 (L : Lv) (k : Nat) (x0 : LL) (m0 : Nat) (v3 : Int) (v4 : LL) : Option Bool := Ak Ac Try.prog (orK L) kp k 88 (ea Cf_k Cf_c x0) [1, 1, 0, 1, 0] [m0] ⟨[(0, .one (.c (C.row 86 x0))), (3, .itr 64), (7, .one (.c (C.row 86 x0))), (8, .one (.c (C.int .i64 (x0.length : Int)))), (9, .one (.c (C.int .i64 v3)))], [(64, .mp 27 4 v4)], 66, 36⟩ Cf_d
noncomputable def Da_b (L : Lv) (k : Nat) : Int → Option Bool := cur Da_c fun a => As Ac Try.prog (orK L) kp k 104 (ea Da_k Da_c a) Da_d
noncomputable def Dj_b (L : Lv) (k : Nat) : Int → LL → LL → Option Bool := cur Dj_c fun a => As Ac Try.prog (orK L) kp k 9 (ea Dj_k Dj_c a) Dj_d
noncomputable def Du_b (L : Lv) (k : Nat) : Int → LL → LL → Option Int := cur Du_c fun a => As Ac Try.prog (orK L) kp k 28 (ea Du_k Du_c a) Du_d
noncomputable def Bg_b (L : Lv) (k : Nat) : Int → LL → LL → Int → Option Int := cur Bg_c fun a => As Ac Try.prog (orK L) kp k 48 (ea Bg_k Bg_c a) Bg_d
noncomputable def Bg_l0 (L : Lv) (k : Nat) (xb : Int) (xa xc : LL) (x1 : Int) (m0 : Nat) (v1 v2 : Int) : Option Int := Ak Ac Try.prog (orK L) kp k 48 (ea Bg_k Bg_c (xb, xa, xc, x1)) [1, 1, 0, 1, 0] [m0] ⟨[(1, .one (.c (C.int .i64 x1))), (2, .one (.ptr 128 0)), (5, .one (.c (C.int .i64 v1))), (6, .one (.c (C.int .i64 v2)))], [(128, .box 25 [.c (C.int .i64 xb), .c (C.row 25 xa), .c (C.row 66 xc)])], 130, 55⟩ Bg_d
noncomputable def Bg_l1 (L : Lv) (k : Nat) (xb : Int) (xa xc : LL) (x1 : Int) (m0 : Nat) (v1 v2 : Int) : Option Int := Ak Ac Try.prog (orK L) kp k 48 (ea Bg_k Bg_c (xb, xa, xc, x1)) [1, 1, 1, 0, 1, 0] [m0] ⟨[(1, .one (.c (C.int .i64 x1))), (2, .one (.ptr 128 0)), (5, .one (.c (C.int .i64 v1))), (7, .one (.c (C.int .i64 v2)))], [(128, .box 25 [.c (C.int .i64 xb), .c (C.row 25 xa), .c (C.row 66 xc)])], 130, 55⟩ Bg_d
noncomputable def Bm_b (L : Lv) (k : Nat) : Int → BA → BA → BA → LL → LL → Int → Option Int := cur Bm_c fun a => As Ac Try.prog (orK L) kp k 64 (ea Bm_k Bm_c a) Bm_d
noncomputable def Bm_l0 (L : Lv) (k : Nat) (xb : Int) (xa xc xg : BA) (xh xi : LL) (x1 : Int) (m0 : Nat) (v1 v2 : Int) : Option Int := Ak Ac Try.prog (orK L) kp k 64 (ea Bm_k Bm_c (xb, xa, xc, xg, xh, xi, x1)) [1, 1, 0, 1, 0] [m0] ⟨[(1, .one (.c (C.int .i64 x1))), (2, .one (.ptr 128 0)), (5, .one (.c (C.int .i64 v1))), (6, .one (.c (C.int .i64 v2)))], [(128, .box 66 [.c (C.int .i64 xb), .c (C.str xa), .c (C.str xc), .c (C.str xg), .c (C.row 66 xh), .c (C.row 25 xi)])], 130, 55⟩ Bm_d
noncomputable def Bm_l1 (L : Lv) (k : Nat) (xb : Int) (xa xc xg : BA) (xh xi : LL) (x1 : Int) (m0 : Nat) (v1 v2 : Int) : Option Int := Ak Ac Try.prog (orK L) kp k 64 (ea Bm_k Bm_c (xb, xa, xc, xg, xh, xi, x1)) [1, 1, 1, 0, 1, 0] [m0] ⟨[(1, .one (.c (C.int .i64 x1))), (2, .one (.ptr 128 0)), (5, .one (.c (C.int .i64 v1))), (7, .one (.c (C.int .i64 v2)))], [(128, .box 66 [.c (C.int .i64 xb), .c (C.str xa), .c (C.str xc), .c (C.str xg), .c (C.row 66 xh), .c (C.row 25 xi)])], 130, 55⟩ Bm_d
noncomputable def Bb_b (L : Lv) (k : Nat) : Int → LL → LL → Int → Option Bool := cur Bb_c fun a => As Ac Try.prog (orK L) kp k 29 (ea Bb_k Bb_c a) Bb_d
noncomputable def Bb_l0 (L : Lv) (k : Nat) (xb : Int) (xa xc : LL) (x1 v1 v2 : Int) : Option Bool := Ak Ac Try.prog (orK L) kp k 29 (ea Bb_k Bb_c (xb, xa, xc, x1)) [1, 1, 1, 1, 1, 1, 0, 0] [] ⟨[(1, .one (.c (C.int .i64 x1))), (2, .one (.ptr 128 0)), (5, .one (.c (C.int .i64 v1))), (6, .one (.c (C.int .i64 v2)))], [(128, .box 25 [.c (C.int .i64 xb), .c (C.row 25 xa), .c (C.row 66 xc)])], 130, 88⟩ Bb_d
noncomputable def Bb_l1 (L : Lv) (k : Nat) (xb : Int) (xa xc : LL) (x1 : Int) (m0 : Nat) (v1 : Int) : Option Bool := Ak Ac Try.prog (orK L) kp k 29 (ea Bb_k Bb_c (xb, xa, xc, x1)) [1, 1, 1, 1, 1, 1, 1, 0, 1, 0] [m0] ⟨[(1, .one (.c (C.int .i64 x1))), (2, .one (.ptr 128 0)), (7, .one (.c (C.int .i64 v1)))], [(128, .box 25 [.c (C.int .i64 xb), .c (C.row 25 xa), .c (C.row 66 xc)])], 130, 88⟩ Bb_d
noncomputable def Aj_b (L : Lv) (k : Nat) : Int → BA → BA → BA → LL → LL → Int → Option Bool := cur Aj_c fun a => As Ac Try.prog (orK L) kp k 49 (ea Aj_k Aj_c a) Aj_d
noncomputable def Aj_l0 (L : Lv) (k : Nat) (xb : Int) (xa xc xg : BA) (xh xi : LL) (x1 : Int) (v1 v2 : Bool) : Option Bool := Ak Ac Try.prog (orK L) kp k 49 (ea Aj_k Aj_c (xb, xa, xc, xg, xh, xi, x1)) [1, 1, 1, 1, 0, 0] [] ⟨[(1, .one (.c (C.int .i64 x1))), (2, .one (.ptr 128 0)), (5, .one (.c (C.bool v1))), (6, .one (.c (C.bool v2)))], [(128, .box 66 [.c (C.int .i64 xb), .c (C.str xa), .c (C.str xc), .c (C.str xg), .c (C.row 66 xh), .c (C.row 25 xi)])], 130, 144⟩ Aj_d
noncomputable def Aj_l1 (L : Lv) (k : Nat) (xb : Int) (xa xc xg : BA) (xh xi : LL) (x1 : Int) (v1 : Bool) : Option Bool := Ak Ac Try.prog (orK L) kp k 49 (ea Aj_k Aj_c (xb, xa, xc, xg, xh, xi, x1)) [1, 1, 1, 1, 1, 0, 0] [] ⟨[(1, .one (.c (C.int .i64 x1))), (2, .one (.ptr 128 0)), (6, .one (.c (C.bool v1)))], [(128, .box 66 [.c (C.int .i64 xb), .c (C.str xa), .c (C.str xc), .c (C.str xg), .c (C.row 66 xh), .c (C.row 25 xi)])], 130, 144⟩ Aj_d
noncomputable def Aj_l2 (L : Lv) (k : Nat) (xb : Int) (xa xc xg : BA) (xh xi : LL) (x1 v1 v2 : Int) : Option Bool := Ak Ac Try.prog (orK L) kp k 49 (ea Aj_k Aj_c (xb, xa, xc, xg, xh, xi, x1)) [1, 1, 1, 1, 1, 1, 1, 1, 1, 0, 0] [] ⟨[(1, .one (.c (C.int .i64 x1))), (2, .one (.ptr 128 0)), (7, .one (.c (C.int .i64 v1))), (8, .one (.c (C.int .i64 v2)))], [(128, .box 66 [.c (C.int .i64 xb), .c (C.str xa), .c (C.str xc), .c (C.str xg), .c (C.row 66 xh), .c (C.row 25 xi)])], 130, 144⟩ Aj_d
noncomputable def Aj_l3 (L : Lv) (k : Nat) (xb : Int) (xa xc xg : BA) (xh xi : LL) (x1 v1 v2 : Int) : Option Bool := Ak Ac Try.prog (orK L) kp k 49 (ea Aj_k Aj_c (xb, xa, xc, xg, xh, xi, x1)) [1, 1, 1, 1, 1, 1, 1, 1, 1, 1, 0, 0] [] ⟨[(1, .one (.c (C.int .i64 x1))), (2, .one (.ptr 128 0)), (7, .one (.c (C.int .i64 v1))), (8, .one (.c (C.int .i64 v2)))], [(128, .box 66 [.c (C.int .i64 xb), .c (C.str xa), .c (C.str xc), .c (C.str xg), .c (C.row 66 xh), .c (C.row 25 xi)])], 130, 144⟩ Aj_d
noncomputable def Aj_l4 (L : Lv) (k : Nat) (xb : Int) (xa xc xg : BA) (xh xi : LL) (x1 : Int) (m0 : Nat) (v1 : Int) : Option Bool := Ak Ac Try.prog (orK L) kp k 49 (ea Aj_k Aj_c (xb, xa, xc, xg, xh, xi, x1)) [1, 1, 1, 1, 1, 1, 1, 1, 1, 1, 1, 0, 1, 0] [m0] ⟨[(1, .one (.c (C.int .i64 x1))), (2, .one (.ptr 128 0)), (9, .one (.c (C.int .i64 v1)))], [(128, .box 66 [.c (C.int .i64 xb), .c (C.str xa), .c (C.str xc), .c (C.str xg), .c (C.row 66 xh), .c (C.row 25 xi)])], 130, 144⟩ Aj_d
noncomputable def Dk_b (L : Lv) (k : Nat) : BA → BA → Option Bool := cur Dk_c fun a => As Ac Try.prog (orK L) kp k 65 (ea Dk_k Dk_c a) Dk_d
noncomputable def Bf_b (L : Lv) (k : Nat) : BA → Option Bool := cur Bf_c fun a => As Ac Try.prog (orK L) kp k 50 (ea Bf_k Bf_c a) Bf_d
noncomputable def Bf_l0 (L : Lv) (k : Nat) (x0 : BA) (m0 : Nat) (v0 v1 : Int) (v2 : LL) : Option Bool := Ak Ac Try.prog (orK L) kp k 50 (ea Bf_k Bf_c x0) [1, 1, 0, 1, 0] [m0] ⟨[(3, .one (.arr 64)), (5, .one (.c (C.int .i64 v0))), (6, .one (.c (C.int .i64 v1)))], [(64, .arr 21 false v2)], 66, 28⟩ Bf_d
noncomputable def Bx_b (L : Lv) (k : Nat) : BA → Option Bool := cur Bx_c fun a => As Ac Try.prog (orK L) kp k 68 (ea Bx_k Bx_c a) Bx_d
noncomputable def Bx_l0 (L : Lv) (k : Nat) (x0 : BA) (m0 : Nat) (v1 : Int) : Option Bool := Ak Ac Try.prog (orK L) kp k 68 (ea Bx_k Bx_c x0) [1, 1, 1, 0, 1, 0] [m0] ⟨[(3, .one (.c (C.row 21 (E7 x0)))), (4, .one (.c (C.int .i64 v1)))], [], 65, 31⟩ Bx_d
noncomputable def Ba_b (L : Lv) (k : Nat) : BA → Option (LL × Int × Int) := cur Ba_c fun a => As Ac Try.prog (orK L) kp k 66 (ea Ba_k Ba_c a) Ba_d
noncomputable def Ba_l0 (L : Lv) (k : Nat) (x0 : BA) (m0 : Nat) : Option (LL × Int × Int) := Ak Ac Try.prog (orK L) kp k 66 (ea Ba_k Ba_c x0) [1, 1, 1, 0, 0] [m0] ⟨[(0, .one (.c (C.str x0))), (5, .one (.c (C.nil 21))), (6, .one (.c (C.int .i64 0)))], [], 65, 36⟩ Ba_d
noncomputable def Ba_l1 (L : Lv) (k : Nat) (x0 : BA) (m0 : Nat) (v1 : Int) (v2 : LL) : Option (LL × Int × Int) := Ak Ac Try.prog (orK L) kp k 66 (ea Ba_k Ba_c x0) [1, 1, 1, 0, 0] [m0] ⟨[(0, .one (.c (C.str x0))), (5, .one (.arr 64)), (6, .one (.c (C.int .i64 v1)))], [(64, .arr 21 false v2)], 66, 36⟩ Ba_d
noncomputable def Cu_b (L : Lv) (k : Nat) : Int → Option Bool := cur Cu_c fun a => As Ac Try.prog (orK L) kp k 85 (ea Cu_k Cu_c a) Cu_d
noncomputable def Bc_b (L : Lv) (k : Nat) : BA → Int → Option (Int × Int × Int) := cur Bc_c fun a => As Ac Try.prog (orK L) kp k 83 (ea Bc_k Bc_c a) Bc_d
noncomputable def Bc_l0 (L : Lv) (k : Nat) (x0 : BA) (x1 : Int) (m0 : Nat) (v2 : Int) : Option (Int × Int × Int) := Ak Ac Try.prog (orK L) kp k 83 (ea Bc_k Bc_c (x0, x1)) [1, 1, 0, 1, 0] [m0] ⟨[(0, .one (.c (C.str x0))), (1, .one (.c (C.int .i64 x1))), (7, .one (.c (C.int .i64 v2)))], [], 129, 57⟩ Bc_d
noncomputable def Cp_b (L : Lv) (k : Nat) : Int → Option LL := cur Cp_c fun a => As Ac Try.prog (orK L) kp k 94 (ea Cp_k Cp_c a) Cp_d
noncomputable def Ag_b (L : Lv) (k : Nat) : BA → Int → Option Bool := cur Ag_c fun a => As Ac Try.prog (orK L) kp k 96 (ea Ag_k Ag_c a) Ag_d
noncomputable def Ag_l0 (L : Lv) (k : Nat) (x0 : BA) (x1 : Int) (m0 : Nat) (v3 : Int) : Option Bool := Ak Ac Try.prog (orK L) kp k 96 (ea Ag_k Ag_c (x0, x1)) [1, 1, 1, 0, 1, 0] [m0] ⟨[(0, .one (.c (C.str x0))), (1, .one (.c (C.int .i64 x1))), (5, .one (.c (C.int .i64 (IntKind.i64.wrap ((x0.size : Int) - x1))))), (6, .one (.c (C.int .i64 v3)))], [], 129, 156⟩ Ag_d
noncomputable def Ag_l1 (L : Lv) (k : Nat) (x0 : BA) (x1 : Int) (m0 m1 : Nat) (v3 : Int) (v5 v6 : BA) : Option Bool := Ak Ac Try.prog (orK L) kp k 96 (ea Ag_k Ag_c (x0, x1)) [1, 1, 1, 0, 1, 0, 0, 1, 0, 0, 1, 1, 1, 0, 0] [m0, m1] ⟨[(0, .one (.c (C.str x0))), (1, .one (.c (C.int .i64 x1))), (5, .one (.c (C.int .i64 (IntKind.i64.wrap ((x0.size : Int) - x1))))), (6, .one (.c (C.int .i64 v3))), (7, .one (.c (C.str (x0.extract x1.toNat ((x0.size : Int).toNat))))), (8, .one (.c (C.str v5))), (9, .one (.c (C.str v6)))], [], 129, 156⟩ Ag_d
noncomputable def Ag_l2 (L : Lv) (k : Nat) (x0 : BA) (x1 : Int) (m0 m1 : Nat) (v3 v5 v6 : Int) (v7 : Bool) (v8 : Int) : Option Bool := Ak Ac Try.prog (orK L) kp k 96 (ea Ag_k Ag_c (x0, x1)) [1, 1, 1, 0, 1, 0, 0, 1, 0, 0, 1, 1, 1, 1, 1, 1, 1, 0, 1, 0] [m0, m1] ⟨[(0, .one (.c (C.str x0))), (1, .one (.c (C.int .i64 x1))), (5, .one (.c (C.int .i64 (IntKind.i64.wrap ((x0.size : Int) - x1))))), (6, .one (.c (C.int .i64 v3))), (7, .one (.c (C.str (x0.extract x1.toNat ((x0.size : Int).toNat))))), (10, .one (.c (C.int .i64 v5))), (11, .one (.c (C.int .i64 v6))), (12, .one (.c (C.bool v7))), (13, .one (.c (C.int .i64 v8)))], [], 129, 156⟩ Ag_d
noncomputable def Ag_l3 (L : Lv) (k : Nat) (x0 : BA) (x1 : Int) (m0 : Nat) (v3 v5 v6 : Int) (v7 v8 : Bool) : Option Bool := Ak Ac Try.prog (orK L) kp k 96 (ea Ag_k Ag_c (x0, x1)) [1, 1, 1, 0, 1, 0, 0, 1, 0, 0, 1, 1, 1, 1, 1, 1, 1, 1, 1, 0, 0] [m0] ⟨[(0, .one (.c (C.str x0))), (1, .one (.c (C.int .i64 x1))), (5, .one (.c (C.int .i64 (IntKind.i64.wrap ((x0.size : Int) - x1))))), (6, .one (.c (C.int .i64 v3))), (7, .one (.c (C.str (x0.extract x1.toNat ((x0.size : Int).toNat))))), (10, .one (.c (C.int .i64 v5))), (11, .one (.c (C.int .i64 v6))), (12, .one (.c (C.bool v7))), (14, .one (.c (C.bool v8)))], [], 129, 156⟩ Ag_d
noncomputable def Ag_l4 (L : Lv) (k : Nat) (x0 : BA) (x1 : Int) (m0 m1 : Nat) (v3 v5 v6 v7 : Int) : Option Bool := Ak Ac Try.prog (orK L) kp k 96 (ea Ag_k Ag_c (x0, x1)) [1, 1, 1, 0, 1, 0, 0, 1, 0, 0, 1, 1, 1, 1, 1, 1, 1, 1, 1, 1, 1, 0] [m0, m1] ⟨[(0, .one (.c (C.str x0))), (1, .one (.c (C.int .i64 x1))), (5, .one (.c (C.int .i64 (IntKind.i64.wrap ((x0.size : Int) - x1))))), (6, .one (.c (C.int .i64 v3))), (7, .one (.c (C.str (x0.extract x1.toNat ((x0.size : Int).toNat))))), (10, .one (.c (C.int .i64 v5))), (11, .one (.c (C.int .i64 v6))), (15, .one (.c (C.int .i64 v7)))], [], 129, 156⟩ Ag_d
noncomputable def Ap_b (L : Lv) (k : Nat) : BA → Int → Int → Option Int := cur Ap_c fun a => As Ac Try.prog (orK L) kp k 93 (ea Ap_k Ap_c a) Ap_d
noncomputable def Ap_l0 (L : Lv) (k : Nat) (x0 : BA) (x1 x2 : Int) (m0 : Nat) (v3 v4 : Int) : Option Int := Ak Ac Try.prog (orK L) kp k 93 (ea Ap_k Ap_c (x0, x1, x2)) [1, 1, 0, 1, 0] [m0] ⟨[(0, .one (.c (C.str x0))), (1, .one (.c (C.int .i64 x1))), (2, .one (.c (C.int .i64 x2))), (7, .one (.c (C.int .i64 v3))), (8, .one (.c (C.int .i64 v4)))], [], 193, 54⟩ Ap_d
noncomputable def Ap_l1 (L : Lv) (k : Nat) (x0 : BA) (x1 x2 : Int) (m0 : Nat) (v3 v4 v5 : Int) : Option Int := Ak Ac Try.prog (orK L) kp k 93 (ea Ap_k Ap_c (x0, x1, x2)) [1, 1, 0, 1, 0, 0, 1, 0, 0, 1, 1, 1, 0, 0] [m0] ⟨[(0, .one (.c (C.str x0))), (1, .one (.c (C.int .i64 x1))), (2, .one (.c (C.int .i64 x2))), (7, .one (.c (C.int .i64 v3))), (8, .one (.c (C.int .i64 v4))), (9, .one (.c (C.int .i64 v5)))], [], 193, 54⟩ Ap_d
noncomputable def Bj_b (L : Lv) (k : Nat) : LL → Option Bool := cur Bj_c fun a => As Ac Try.prog (orK L) kp k 15 (ea Bj_k Bj_c a) Bj_d
noncomputable def Bj_l0 (L : Lv) (k : Nat) (x0 : LL) (m0 : Nat) (v1 v2 : Int) : Option Bool := Ak Ac Try.prog (orK L) kp k 15 (ea Bj_k Bj_c x0) [1, 1, 0, 1, 0] [m0] ⟨[(0, .one (.c (C.row 30 x0))), (3, .one (.c (C.int .i64 v1))), (4, .one (.c (C.int .i64 v2)))], [], 65, 108⟩ Bj_d
noncomputable def Bj_l1 (L : Lv) (k : Nat) (x0 : LL) (m0 m1 : Nat) (v1 v2 v3 : Int) : Option Bool := Ak Ac Try.prog (orK L) kp k 15 (ea Bj_k Bj_c x0) [1, 1, 0, 1, 0, 0, 1, 0, 0, 1, 1, 1, 0] [m0, m1] ⟨[(0, .one (.c (C.row 30 x0))), (3, .one (.c (C.int .i64 v1))), (4, .one (.c (C.int .i64 v2))), (5, .one (.c (C.int .i64 v3)))], [], 65, 108⟩ Bj_d
noncomputable def C0_b (L : Lv) (k : Nat) : Int → Option Bool := cur C0_c fun a => As Ac Try.prog (orK L) kp k 67 (ea C0_k C0_c a) C0_d
noncomputable def C1_b (L : Lv) (k : Nat) : Int → Option Bool := cur C1_c fun a => As Ac Try.prog (orK L) kp k 86 (ea C1_k C1_c a) C1_d
noncomputable def Bt_b (L : Lv) (k : Nat) : BA → Int → LL → Option Bool := cur Bt_c fun a => As Ac Try.prog (orK L) kp k 95 (ea Bt_k Bt_c a) Bt_d
noncomputable def Bt_l0 (L : Lv) (k : Nat) (x0 : BA) (x1 : Int) (x2 : LL) (m0 : Nat) (v3 : Int) : Option Bool := Ak Ac Try.prog (orK L) kp k 95 (ea Bt_k Bt_c (x0, x1, x2)) [1, 1, 0, 1, 0] [m0] ⟨[(0, .one (.c (C.str x0))), (1, .one (.c (C.int .i64 x1))), (2, .one (.c (C.row 5 x2))), (7, .one (.c (C.int .i64 v3)))], [], 193, 36⟩ Bt_d
noncomputable def Cz_b (L : Lv) (k : Nat) : Int → Option Bool := cur Cz_c fun a => As Ac Try.prog (orK L) kp k 84 (ea Cz_k Cz_c a) Cz_d
noncomputable def Di_b (L : Lv) (k : Nat) : LL → Option Bool := cur Di_c fun a => As Ac Try.prog (orK L) kp k 17 (ea Di_k Di_c a) Di_d
noncomputable def B8_b (L : Lv) (k : Nat) : BA → Int → BA → Option Int := cur B8_c fun a => As Ac Try.prog (orK L) kp k 82 (ea B8_k B8_c a) B8_d
noncomputable def B8_l0 (L : Lv) (k : Nat) (x0 : BA) (x1 : Int) (x2 : BA) (m0 : Nat) (v2 : Int) : Option Int := Ak Ac Try.prog (orK L) kp k 82 (ea B8_k B8_c (x0, x1, x2)) [1, 0, 1, 0] [m0] ⟨[(0, .one (.c (C.str x0))), (2, .one (.c (C.str x2))), (7, .one (.c (C.int .i64 v2)))], [], 193, 28⟩ B8_d
noncomputable def A5_b (L : Lv) (k : Nat) : LL → Option Int := cur A5_c fun a => As Ac Try.prog (orK L) kp k 41 (ea A5_k A5_c a) A5_d
noncomputable def A5_l0 (L : Lv) (k : Nat) (x0 : LL) (m0 : Nat) (v1 v2 : Int) : Option Int := Ak Ac Try.prog (orK L) kp k 41 (ea A5_k A5_c x0) [1, 1, 0, 1, 0] [m0] ⟨[(0, .one (.c (C.row 30 x0))), (3, .one (.c (C.int .i64 v1))), (4, .one (.c (C.int .i64 v2)))], [], 65, 70⟩ A5_d
noncomputable def A5_l1 (L : Lv) (k : Nat) (x0 : LL) (m0 : Nat) (v1 v2 : Int) : Option Int := Ak Ac Try.prog (orK L) kp k 41 (ea A5_k A5_c x0) [1, 1, 0, 1, 0, 0, 1, 0, 0, 1, 0, 0] [m0] ⟨[(0, .one (.c (C.row 30 x0))), (3, .one (.c (C.int .i64 v1))), (4, .one (.c (C.int .i64 v2)))], [], 65, 70⟩ A5_d
noncomputable def A5_l2 (L : Lv) (k : Nat) (x0 : LL) (m0 : Nat) (v1 v2 : Int) : Option Int := Ak Ac Try.prog (orK L) kp k 41 (ea A5_k A5_c x0) [1, 1, 0, 1, 0, 0, 1, 0, 0, 1, 1, 0, 0] [m0] ⟨[(0, .one (.c (C.row 30 x0))), (3, .one (.c (C.int .i64 v1))), (4, .one (.c (C.int .i64 v2)))], [], 65, 70⟩ A5_d
noncomputable def A6_b (L : Lv) (k : Nat) : Int → BA → BA → LL → BA → Option Bool := cur A6_c fun a => As Ac Try.prog (orK L) kp k 30 (ea A6_k A6_c a) A6_d
noncomputable def A6_l0 (L : Lv) (k : Nat) (xb : Int) (xa xc : BA) (xg : LL) (xh : BA) (v0 : Bool) : Option Bool := Ak Ac Try.prog (orK L) kp k 30 (ea A6_k A6_c (xb, xa, xc, xg, xh)) [1, 1, 0, 0] [] ⟨[(1, .one (.ptr 64 0)), (3, .one (.c (C.bool v0)))], [(64, .box 30 [.c (C.int .i64 xb), .c (C.str xa), .c (C.str xc), .c (C.row 86 xg), .c (C.str xh)])], 66, 102⟩ A6_d
noncomputable def A6_l1 (L : Lv) (k : Nat) (xb : Int) (xa xc : BA) (xg : LL) (xh : BA) (m0 : Nat) (v0 : Int) : Option Bool := Ak Ac Try.prog (orK L) kp k 30 (ea A6_k A6_c (xb, xa, xc, xg, xh)) [1, 1, 1, 1, 1, 0, 1, 0] [m0] ⟨[(1, .one (.ptr 64 0)), (4, .one (.c (C.int .i64 v0)))], [(64, .box 30 [.c (C.int .i64 xb), .c (C.str xa), .c (C.str xc), .c (C.row 86 xg), .c (C.str xh)])], 66, 102⟩ A6_d
noncomputable def A6_l2 (L : Lv) (k : Nat) (xb : Int) (xa xc : BA) (xg : LL) (xh : BA) (m0 m1 : Nat) (v0 v1 : Int) : Option Bool := Ak Ac Try.prog (orK L) kp k 30 (ea A6_k A6_c (xb, xa, xc, xg, xh)) [1, 1, 1, 1, 1, 0, 1, 0, 0, 1, 0, 0, 1, 1, 0] [m0, m1] ⟨[(1, .one (.ptr 64 0)), (4, .one (.c (C.int .i64 v0))), (5, .one (.c (C.int .i64 v1)))], [(64, .box 30 [.c (C.int .i64 xb), .c (C.str xa), .c (C.str xc), .c (C.row 86 xg), .c (C.str xh)])], 66, 102⟩ A6_d
noncomputable def De_b (L : Lv) (k : Nat) : BA → BA → Option Bool := cur De_c fun a => As Ac Try.prog (orK L) kp k 51 (ea De_k De_c a) De_d
noncomputable def Bo_b (L : Lv) (k : Nat) : LL → Option (LL × LL) := cur Bo_c fun a => As Ac Try.prog (orK L) kp k 22 (ea Bo_k Bo_c a) Bo_d
noncomputable def Bo_l0 (L : Lv) (k : Nat) (x0 : LL) (m0 : Nat) (v1 : Int) : Option (LL × LL) := Ak Ac Try.prog (orK L) kp k 22 (ea Bo_k Bo_c x0) [1, 1, 0, 1, 0] [m0] ⟨[(0, .one (.c (C.row 30 x0))), (2, .one (.ptr 64 0)), (3, .one (.ptr 65 0)), (4, .one (.c (C.int .i64 v1)))], [(64, .box 60 [.c (C.nil 30), .c (C.nil 3)]), (65, .box 60 [.c (C.row 30 x0), .c (C.nil 3)])], 67, 26⟩ Bo_d
noncomputable def Bo_l1 (L : Lv) (k : Nat) (x0 : LL) (m0 : Nat) (v1 : Int) (v3 : LL) : Option (LL × LL) := Ak Ac Try.prog (orK L) kp k 22 (ea Bo_k Bo_c x0) [1, 1, 0, 1, 0] [m0] ⟨[(0, .one (.c (C.row 30 x0))), (2, .one (.ptr 64 0)), (3, .one (.ptr 65 0)), (4, .one (.c (C.int .i64 v1)))], [(64, .box 60 [.c (C.nil 30), .c (C.nil 3)]), (65, .box 60 [.c (C.row 30 x0), .arr 66]), (66, .arr 3 false v3)], 68, 26⟩ Bo_d
noncomputable def Cd_b (L : Lv) (k : Nat) : LL → LL → LL → Int → Int → Int → LL → LL → Bool → Bool → BA → Option Bool := cur Cd_c fun a => As Ac Try.prog (orK L) kp k 23 (ea Cd_k Cd_c a) Cd_d
noncomputable def Cd_l0 (L : Lv) (k : Nat) (xb xa xc : LL) (xg xh xi : Int) (xj xk : LL) (xd xe : Bool) (xf : BA) (m0 : Nat) (v0 : Int) : Option Bool := Ak Ac Try.prog (orK L) kp k 23 (ea Cd_k Cd_c (xb, xa, xc, xg, xh, xi, xj, xk, xd, xe, xf)) [1, 1, 0, 1, 0] [m0] ⟨[(2, .one (.ptr 128 0)), (3, .one (.ptr 129 0)), (5, .one (.c (C.int .i64 v0)))], [(128, .box 41 [.c (C.row 25 xb), .c (C.row 39 xa), .c (C.row 3 xc), .c (C.int .i64 xg), .c (C.int .i64 xh), .c (C.int .i64 xi), .c (C.row 83 xj), .c (C.row 66 xk)]), (129, .box 44 [.c (C.bool xd), .c (C.bool xe), .c (C.str xf)])], 131, 30⟩ Cd_d
noncomputable def Cc_b (L : Lv) (k : Nat) : LL → LL → LL → Int → Int → Int → LL → LL → Option Int := cur Cc_c fun a => As Ac Try.prog (orK L) kp k 34 (ea Cc_k Cc_c a) Cc_d
noncomputable def Cc_l0 (L : Lv) (k : Nat) (xb xa xc : LL) (xg xh xi : Int) (xj xk : LL) (m0 : Nat) (v0 v1 : Int) : Option Int := Ak Ac Try.prog (orK L) kp k 34 (ea Cc_k Cc_c (xb, xa, xc, xg, xh, xi, xj, xk)) [1, 1, 0, 1, 0] [m0] ⟨[(1, .one (.ptr 64 0)), (3, .one (.c (C.int .i64 v0))), (4, .one (.c (C.int .i64 v1)))], [(64, .box 41 [.c (C.row 25 xb), .c (C.row 39 xa), .c (C.row 3 xc), .c (C.int .i64 xg), .c (C.int .i64 xh), .c (C.int .i64 xi), .c (C.row 83 xj), .c (C.row 66 xk)])], 66, 21⟩ Cc_d
noncomputable def Bn_b (L : Lv) (k : Nat) : LL → LL → Int → LL → LL → Int → Option LL := cur Bn_c fun a => As Ac Try.prog (orK L) kp k 24 (ea Bn_k Bn_c a) Bn_d
noncomputable def Bn_l0 (L : Lv) (k : Nat) (xb xa : LL) (xd : Int) (xe xf : LL) (x2 : Int) (m0 : Nat) (v0 : LL) (v1 : Int) : Option LL := Ak Ac Try.prog (orK L) kp k 24 (ea Bn_k Bn_c (xb, xa, xd, xe, xf, x2)) [1, 1, 1, 0, 1, 0] [m0] ⟨[(3, .one (.ptr 192 0)), (7, .one (.c (C.row 3 v0))), (8, .one (.c (C.nil 3))), (9, .one (.c (C.int .i64 v1)))], [(192, .box 60 [.c (C.row 30 xb), .c (C.row 3 xa)])], 194, 30⟩ Bn_d
noncomputable def Bn_l1 (L : Lv) (k : Nat) (xb xa : LL) (xd : Int) (xe xf : LL) (x2 : Int) (m0 : Nat) (v0 : LL) (v1 : Int) (v4 : LL) : Option LL := Ak Ac Try.prog (orK L) kp k 24 (ea Bn_k Bn_c (xb, xa, xd, xe, xf, x2)) [1, 1, 1, 0, 1, 0] [m0] ⟨[(3, .one (.ptr 192 0)), (7, .one (.c (C.row 3 v0))), (8, .one (.arr 193)), (9, .one (.c (C.int .i64 v1)))], [(192, .box 60 [.c (C.row 30 xb), .c (C.row 3 xa)]), (193, .arr 3 false v4)], 195, 30⟩ Bn_d
noncomputable def A8_b (L : Lv) (k : Nat) : LL → LL → LL → Int → Int → Int → LL → LL → Int → BA → BA → BA → LL → LL → Int → BA → BA → LL → BA → LL → Option Bool := cur A8_c fun a => As Ac Try.prog (orK L) kp k 25 (ea A8_k A8_c a) A8_d
noncomputable def A8_l0 (L : Lv) (k : Nat) (xb xa xc : LL) (xg xh xi : Int) (xj xk : LL) (xd : Int) (xe xf xl : BA) (xm xn : LL) (xp : Int) (xq xr : BA) (xs : LL) (xt : BA) (x3 : LL) (m0 : Nat) (v1 v2 : Bool) (v3 : Int) : Option Bool := Ak Ac Try.prog (orK L) kp k 25 (ea A8_k A8_c (xb, xa, xc, xg, xh, xi, xj, xk, xd, xe, xf, xl, xm, xn, xp, xq, xr, xs, xt, x3)) [1, 1, 0, 1, 0, 1, 1, 0, 1, 0] [m0] ⟨[(3, .one (.c (C.row 5 x3))), (4, .one (.ptr 256 0)), (5, .one (.ptr 257 0)), (6, .one (.ptr 258 0)), (9, .one (.c (C.bool v1))), (10, .one (.c (C.bool v2))), (11, .one (.c (C.int .i64 v3)))], [(256, .box 41 [.c (C.row 25 xb), .c (C.row 39 xa), .c (C.row 3 xc), .c (C.int .i64 xg), .c (C.int .i64 xh), .c (C.int .i64 xi), .c (C.row 83 xj), .c (C.row 66 xk)]), (257, .box 66 [.c (C.int .i64 xd), .c (C.str xe), .c (C.str xf), .c (C.str xl), .c (C.row 66 xm), .c (C.row 25 xn)]), (258, .box 30 [.c (C.int .i64 xp), .c (C.str xq), .c (C.str xr), .c (C.row 86 xs), .c (C.str xt)])], 260, 177⟩ A8_d
noncomputable def A8_l1 (L : Lv) (k : Nat) (xb xa xc : LL) (xg xh xi : Int) (xj xk : LL) (xd : Int) (xe xf xl : BA) (xm xn : LL) (xp : Int) (xq xr : BA) (xs : LL) (xt : BA) (x3 : LL) (m0 : Nat) (v0 : Int) : Option Bool := Ak Ac Try.prog (orK L) kp k 25 (ea A8_k A8_c (xb, xa, xc, xg, xh, xi, xj, xk, xd, xe, xf, xl, xm, xn, xp, xq, xr, xs, xt, x3)) [1, 1, 1, 1, 1, 1, 1, 1, 0, 1, 0] [m0] ⟨[(5, .one (.ptr 256 0)), (6, .one (.ptr 257 0)), (14, .one (.c (C.int .i64 v0)))], [(256, .box 66 [.c (C.int .i64 xd), .c (C.str xe), .c (C.str xf), .c (C.str xl), .c (C.row 66 xm), .c (C.row 25 xn)]), (257, .box 30 [.c (C.int .i64 xp), .c (C.str xq), .c (C.str xr), .c (C.row 86 xs), .c (C.str xt)])], 259, 177⟩ A8_d
noncomputable def Ab_b (L : Lv) (k : Nat) : LL → LL → Int → LL → LL → LL → Option LL := cur Ab_c fun a => As Ac Try.prog (orK L) kp k 44 (ea Ab_k Ab_c a) Ab_d
noncomputable def Ab_l0 (L : Lv) (k : Nat) (xb xa : LL) (xd : Int) (xe xf x2 : LL) (m0 : Nat) (v0 : LL) (v1 : Int) : Option LL := Ak Ac Try.prog (orK L) kp k 44 (ea Ab_k Ab_c (xb, xa, xd, xe, xf, x2)) [1, 1, 0, 1, 0, 0, 1, 0] [m0] ⟨[(2, .one (.c (C.row 3 v0))), (3, .one (.ptr 192 0)), (4, .one (.ptr 193 0)), (7, .one (.c (C.int .i64 v1)))], [(192, .box 60 [.c (C.row 30 xb), .c (C.row 3 xa)]), (193, .box 25 [.c (C.int .i64 xd), .c (C.row 25 xe), .c (C.row 66 xf)])], 195, 189⟩ Ab_d
noncomputable def Ab_l1 (L : Lv) (k : Nat) (xb xa : LL) (xd : Int) (xe xf x2 : LL) (m0 : Nat) : Option LL := Ak Ac Try.prog (orK L) kp k 44 (ea Ab_k Ab_c (xb, xa, xd, xe, xf, x2)) [1, 1, 1, 1, 0, 1, 0, 1, 0, 1, 0] [m0] ⟨[(3, .one (.ptr 192 0)), (4, .one (.ptr 193 0)), (8, .one (.arr 194)), (9, .one (.c (C.int .i64 0)))], [(192, .box 60 [.c (C.row 30 xb), .c (C.row 3 xa)]), (193, .box 25 [.c (C.int .i64 xd), .c (C.row 25 xe), .c (C.row 66 xf)]), (194, .arr 3 false x2)], 196, 189⟩ Ab_d
noncomputable def Ab_l2 (L : Lv) (k : Nat) (xb xa : LL) (xd : Int) (xe xf x2 : LL) (m0 : Nat) (v1 : Int) : Option LL := Ak Ac Try.prog (orK L) kp k 44 (ea Ab_k Ab_c (xb, xa, xd, xe, xf, x2)) [1, 1, 1, 1, 1, 0, 1, 0] [m0] ⟨[(2, .one (.c (C.row 3 x2))), (3, .one (.ptr 192 0)), (4, .one (.ptr 193 0)), (8, .one (.c (C.nil 3))), (12, .one (.c (C.int .i64 v1)))], [(192, .box 60 [.c (C.row 30 xb), .c (C.row 3 xa)]), (193, .box 25 [.c (C.int .i64 xd), .c (C.row 25 xe), .c (C.row 66 xf)])], 195, 189⟩ Ab_d
noncomputable def Ab_l3 (L : Lv) (k : Nat) (xb xa : LL) (xd : Int) (xe xf x2 : LL) (m0 m1 : Nat) (v0 : Int) (v1 : LL) (v2 : Int) (v8 : LL) : Option LL := Ak Ac Try.prog (orK L) kp k 44 (ea Ab_k Ab_c (xb, xa, xd, xe, xf, x2)) [1, 1, 1, 1, 0, 1, 0, 1, 0, 1, 0, 0, 1, 0, 0, 1, 1, 0] [m0, m1] ⟨[(3, .one (.ptr 192 0)), (4, .one (.ptr 193 0)), (8, .one (.arr 194)), (9, .one (.c (C.int .i64 v0))), (10, .one (.c (C.row 3 v1))), (11, .one (.c (C.int .i64 v2)))], [(192, .box 60 [.c (C.row 30 xb), .c (C.row 3 xa)]), (193, .box 25 [.c (C.int .i64 xd), .c (C.row 25 xe), .c (C.row 66 xf)]), (194, .arr 3 true v8)], 196, 189⟩ Ab_d
noncomputable def Ab_l4 (L : Lv) (k : Nat) (xb xa : LL) (xd : Int) (xe xf x2 : LL) (m0 : Nat) (v1 : Int) : Option LL := Ak Ac Try.prog (orK L) kp k 44 (ea Ab_k Ab_c (xb, xa, xd, xe, xf, x2)) [1, 1, 1, 1, 1, 0, 1, 0, 0, 1, 0, 0, 1, 0, 0] [m0] ⟨[(2, .one (.c (C.row 3 x2))), (3, .one (.ptr 192 0)), (4, .one (.ptr 193 0)), (8, .one (.c (C.nil 3))), (12, .one (.c (C.int .i64 v1)))], [(192, .box 60 [.c (C.row 30 xb), .c (C.row 3 xa)]), (193, .box 25 [.c (C.int .i64 xd), .c (C.row 25 xe), .c (C.row 66 xf)])], 195, 189⟩ Ab_d
noncomputable def Ab_l5 (L : Lv) (k : Nat) (xb xa : LL) (xd : Int) (xe xf x2 : LL) (m0 : Nat) (v1 : Int) : Option LL := Ak Ac Try.prog (orK L) kp k 44 (ea Ab_k Ab_c (xb, xa, xd, xe, xf, x2)) [1, 1, 1, 1, 1, 1, 0, 1, 0] [m0] ⟨[(2, .one (.c (C.row 3 x2))), (3, .one (.ptr 192 0)), (4, .one (.ptr 193 0)), (8, .one (.c (C.nil 3))), (13, .one (.c (C.int .i64 v1)))], [(192, .box 60 [.c (C.row 30 xb), .c (C.row 3 xa)]), (193, .box 25 [.c (C.int .i64 xd), .c (C.row 25 xe), .c (C.row 66 xf)])], 195, 189⟩ Ab_d
noncomputable def Ab_l6 (L : Lv) (k : Nat) (xb xa : LL) (xd : Int) (xe xf x2 : LL) (m0 : Nat) (v0 : Int) (v6 : LL) : Option LL := Ak Ac Try.prog (orK L) kp k 44 (ea Ab_k Ab_c (xb, xa, xd, xe, xf, x2)) [1, 1, 1, 1, 0, 1, 0, 1, 0, 1, 0] [m0] ⟨[(3, .one (.ptr 192 0)), (4, .one (.ptr 193 0)), (8, .one (.arr 194)), (9, .one (.c (C.int .i64 v0)))], [(192, .box 60 [.c (C.row 30 xb), .c (C.row 3 xa)]), (193, .box 25 [.c (C.int .i64 xd), .c (C.row 25 xe), .c (C.row 66 xf)]), (194, .arr 3 true v6)], 196, 189⟩ Ab_d
noncomputable def Ab_l7 (L : Lv) (k : Nat) (xb xa : LL) (xd : Int) (xe xf x2 : LL) (m0 : Nat) (v1 : Int) : Option LL := Ak Ac Try.prog (orK L) kp k 44 (ea Ab_k Ab_c (xb, xa, xd, xe, xf, x2)) [1, 1, 1, 1, 1, 0, 1, 0, 0, 1, 0, 0, 1, 1, 0] [m0] ⟨[(2, .one (.c (C.row 3 x2))), (3, .one (.ptr 192 0)), (4, .one (.ptr 193 0)), (8, .one (.c (C.nil 3))), (12, .one (.c (C.int .i64 v1)))], [(192, .box 60 [.c (C.row 30 xb), .c (C.row 3 xa)]), (193, .box 25 [.c (C.int .i64 xd), .c (C.row 25 xe), .c (C.row 66 xf)])], 195, 189⟩ Ab_d
noncomputable def Ab_l8 (L : Lv) (k : Nat) (xb xa : LL) (xd : Int) (xe xf x2 : LL) (m0 m1 : Nat) (v1 : Int) (v2 : LL) (v3 : Int) : Option LL := Ak Ac Try.prog (orK L) kp k 44 (ea Ab_k Ab_c (xb, xa, xd, xe, xf, x2)) [1, 1, 1, 1, 1, 1, 0, 1, 0, 0, 1, 0, 0, 1, 1, 0] [m0, m1] ⟨[(2, .one (.c (C.row 3 x2))), (3, .one (.ptr 192 0)), (4, .one (.ptr 193 0)), (8, .one (.c (C.nil 3))), (13, .one (.c (C.int .i64 v1))), (14, .one (.c (C.row 3 v2))), (15, .one (.c (C.int .i64 v3)))], [(192, .box 60 [.c (C.row 30 xb), .c (C.row 3 xa)]), (193, .box 25 [.c (C.int .i64 xd), .c (C.row 25 xe), .c (C.row 66 xf)])], 195, 189⟩ Ab_d
noncomputable def Ab_l9 (L : Lv) (k : Nat) (xb xa : LL) (xd : Int) (xe xf x2 : LL) (m0 : Nat) (v1 : Int) (v7 : LL) : Option LL := Ak Ac Try.prog (orK L) kp k 44 (ea Ab_k Ab_c (xb, xa, xd, xe, xf, x2)) [1, 1, 1, 1, 1, 0, 1, 0, 0, 1, 0, 0, 1, 0, 0] [m0] ⟨[(2, .one (.c (C.row 3 x2))), (3, .one (.ptr 192 0)), (4, .one (.ptr 193 0)), (8, .one (.arr 194)), (12, .one (.c (C.int .i64 v1)))], [(192, .box 60 [.c (C.row 30 xb), .c (C.row 3 xa)]), (193, .box 25 [.c (C.int .i64 xd), .c (C.row 25 xe), .c (C.row 66 xf)]), (194, .arr 3 false v7)], 196, 189⟩ Ab_d
noncomputable def Ab_l10 (L : Lv) (k : Nat) (xb xa : LL) (xd : Int) (xe xf x2 : LL) (m0 : Nat) (v1 : Int) (v7 : LL) : Option LL := Ak Ac Try.prog (orK L) kp k 44 (ea Ab_k Ab_c (xb, xa, xd, xe, xf, x2)) [1, 1, 1, 1, 1, 0, 1, 0, 0, 1, 0, 0, 1, 1, 0] [m0] ⟨[(2, .one (.c (C.row 3 x2))), (3, .one (.ptr 192 0)), (4, .one (.ptr 193 0)), (8, .one (.arr 194)), (12, .one (.c (C.int .i64 v1)))], [(192, .box 60 [.c (C.row 30 xb), .c (C.row 3 xa)]), (193, .box 25 [.c (C.int .i64 xd), .c (C.row 25 xe), .c (C.row 66 xf)]), (194, .arr 3 false v7)], 196, 189⟩ Ab_d
noncomputable def Ab_l11 (L : Lv) (k : Nat) (xb xa : LL) (xd : Int) (xe xf x2 : LL) (m0 : Nat) (v1 : Int) (v7 : LL) : Option LL := Ak Ac Try.prog (orK L) kp k 44 (ea Ab_k Ab_c (xb, xa, xd, xe, xf, x2)) [1, 1, 1, 1, 1, 0, 1, 0] [m0] ⟨[(2, .one (.c (C.row 3 x2))), (3, .one (.ptr 192 0)), (4, .one (.ptr 193 0)), (8, .one (.arr 194)), (12, .one (.c (C.int .i64 v1)))], [(192, .box 60 [.c (C.row 30 xb), .c (C.row 3 xa)]), (193, .box 25 [.c (C.int .i64 xd), .c (C.row 25 xe), .c (C.row 66 xf)]), (194, .arr 3 false v7)], 196, 189⟩ Ab_d
noncomputable def Ab_l12 (L : Lv) (k : Nat) (xb xa : LL) (xd : Int) (xe xf x2 : LL) (m0 m1 : Nat) (v1 : Int) (v2 : LL) (v3 : Int) (v9 : LL) : Option LL := Ak Ac Try.prog (orK L) kp k 44 (ea Ab_k Ab_c (xb, xa, xd, xe, xf, x2)) [1, 1, 1, 1, 1, 1, 0, 1, 0, 0, 1, 0, 0, 1, 1, 0] [m0, m1] ⟨[(2, .one (.c (C.row 3 x2))), (3, .one (.ptr 192 0)), (4, .one (.ptr 193 0)), (8, .one (.arr 194)), (13, .one (.c (C.int .i64 v1))), (14, .one (.c (C.row 3 v2))), (15, .one (.c (C.int .i64 v3)))], [(192, .box 60 [.c (C.row 30 xb), .c (C.row 3 xa)]), (193, .box 25 [.c (C.int .i64 xd), .c (C.row 25 xe), .c (C.row 66 xf)]), (194, .arr 3 false v9)], 196, 189⟩ Ab_d
noncomputable def Ab_l13 (L : Lv) (k : Nat) (xb xa : LL) (xd : Int) (xe xf x2 : LL) (m0 : Nat) (v1 : Int) (v7 : LL) : Option LL := Ak Ac Try.prog (orK L) kp k 44 (ea Ab_k Ab_c (xb, xa, xd, xe, xf, x2)) [1, 1, 1, 1, 1, 1, 0, 1, 0] [m0] ⟨[(2, .one (.c (C.row 3 x2))), (3, .one (.ptr 192 0)), (4, .one (.ptr 193 0)), (8, .one (.arr 194)), (13, .one (.c (C.int .i64 v1)))], [(192, .box 60 [.c (C.row 30 xb), .c (C.row 3 xa)]), (193, .box 25 [.c (C.int .i64 xd), .c (C.row 25 xe), .c (C.row 66 xf)]), (194, .arr 3 false v7)], 196, 189⟩ Ab_d
noncomputable def Cm_b (L : Lv) (k : Nat) : LL → LL → Int → Option Int := cur Cm_c fun a => As Ac Try.prog (orK L) kp k 59 (ea Cm_k Cm_c a) Cm_d
noncomputable def Bz_b (L : Lv) (k : Nat) : LL → Int → Option Bool := cur Bz_c fun a => As Ac Try.prog (orK L) kp k 45 (ea Bz_k Bz_c a) Bz_d
noncomputable def Bz_l0 (L : Lv) (k : Nat) (x0 : LL) (x1 : Int) (m0 : Nat) (v2 : Int) : Option Bool := Ak Ac Try.prog (orK L) kp k 45 (ea Bz_k Bz_c (x0, x1)) [1, 0, 1, 0] [m0] ⟨[(0, .one (.c (C.row 3 x0))), (1, .one (.c (C.int .i64 x1))), (5, .one (.c (C.int .i64 v2)))], [], 129, 18⟩ Bz_d
noncomputable def Cn_b (L : Lv) (k : Nat) : LL → LL → Int → Option Int := cur Cn_c fun a => As Ac Try.prog (orK L) kp k 60 (ea Cn_k Cn_c a) Cn_d
noncomputable def A7_b (L : Lv) (k : Nat) : LL → LL → Int → BA → BA → BA → LL → LL → Int → Option Bool := cur A7_c fun a => As Ac Try.prog (orK L) kp k 26 (ea A7_k A7_c a) A7_d
noncomputable def A7_l0 (L : Lv) (k : Nat) (xb xa : LL) (xd : Int) (xe xf xl : BA) (xm xn : LL) (x2 : Int) (m0 : Nat) (v1 : Int) : Option Bool := Ak Ac Try.prog (orK L) kp k 26 (ea A7_k A7_c (xb, xa, xd, xe, xf, xl, xm, xn, x2)) [1, 1, 1, 1, 1, 1, 1, 0, 1, 0, 0, 1, 0] [m0] ⟨[(4, .one (.ptr 192 0)), (7, .one (.ptr 193 0)), (8, .one (.c (C.bool ((gi (xb.getD ((gi (xa.getD x2.toNat []) 0).toNat) []) 0) == (1 : Int))))), (9, .one (.c (C.int .i64 v1)))], [(192, .box 66 [.c (C.int .i64 xd), .c (C.str xe), .c (C.str xf), .c (C.str xl), .c (C.row 66 xm), .c (C.row 25 xn)]), (193, .box 30 [.c (C.int .i64 (gi (xb.getD ((gi (xa.getD x2.toNat []) 0).toNat) []) 0)), .c (C.str (gs (xb.getD ((gi (xa.getD x2.toNat []) 0).toNat) []) 1)), .c (C.str (gs (xb.getD ((gi (xa.getD x2.toNat []) 0).toNat) []) 2)), .c (C.row 86 (gr (xb.getD ((gi (xa.getD x2.toNat []) 0).toNat) []) 3)), .c (C.str (gs (xb.getD ((gi (xa.getD x2.toNat []) 0).toNat) []) 4))])], 195, 150⟩ A7_d
noncomputable def A7_l1 (L : Lv) (k : Nat) (xb xa : LL) (xd : Int) (xe xf xl : BA) (xm xn : LL) (x2 : Int) (m0 : Nat) (v1 : Int) : Option Bool := Ak Ac Try.prog (orK L) kp k 26 (ea A7_k A7_c (xb, xa, xd, xe, xf, xl, xm, xn, x2)) [1, 1, 1, 1, 1, 1, 1, 1, 1, 1, 1, 0, 1, 0] [m0] ⟨[(2, .one (.c (C.int .i64 x2))), (3, .one (.ptr 192 0)), (4, .one (.ptr 193 0)), (10, .one (.c (C.int .i64 v1)))], [(192, .box 60 [.c (C.row 30 xb), .c (C.row 3 xa)]), (193, .box 66 [.c (C.int .i64 xd), .c (C.str xe), .c (C.str xf), .c (C.str xl), .c (C.row 66 xm), .c (C.row 25 xn)])], 195, 150⟩ A7_d
noncomputable def By_b (L : Lv) (k : Nat) : LL → LL → Int → Option Int := cur By_c fun a => As Ac Try.prog (orK L) kp k 78 (ea By_k By_c a) By_d
noncomputable def By_l0 (L : Lv) (k : Nat) (xb xa : LL) (x1 : Int) (m0 : Nat) (v1 : Int) : Option Int := Ak Ac Try.prog (orK L) kp k 78 (ea By_k By_c (xb, xa, x1)) [1, 0, 1, 0] [m0] ⟨[(1, .one (.c (C.int .i64 x1))), (2, .one (.ptr 128 0)), (5, .one (.c (C.int .i64 v1)))], [(128, .box 60 [.c (C.row 30 xb), .c (C.row 3 xa)])], 130, 21⟩ By_d
noncomputable def Bu_b (L : Lv) (k : Nat) : LL → Int → Option Int := cur Bu_c fun a => As Ac Try.prog (orK L) kp k 42 (ea Bu_k Bu_c a) Bu_d
noncomputable def Bu_l0 (L : Lv) (k : Nat) (x0 : LL) (x1 : Int) (m0 : Nat) (v1 v2 : Int) : Option Int := Ak Ac Try.prog (orK L) kp k 42 (ea Bu_k Bu_c (x0, x1)) [1, 1, 0, 1, 0] [m0] ⟨[(0, .one (.c (C.row 30 x0))), (5, .one (.c (C.int .i64 v1))), (6, .one (.c (C.int .i64 v2)))], [], 129, 36⟩ Bu_d
end Go.Vm.T
