/- The functions, as the machine tells them: levels. -/
import Derived.Test.YtkdlhnmidbnpkaaVmTab
set_option linter.unusedVariables false
set_option maxHeartbeats 4000000
set_option maxRecDepth 100000
namespace Go.Vm.T
open Go Go.Vm Go.Proofs
noncomputable def lv : Nat → Lv
 | 0 => ⟨fun _ _ _ _ => none, none, fun _ _ _ => none, fun _ _ _ => none, fun _ _ _ _ _ _ _ _ => none, fun _ _ _ _ _ _ _ _ _ => none, fun _ _ _ => none, fun _ _ _ _ _ _ => none, fun _ _ _ _ _ _ _ _ _ _ _ => none, fun _ _ _ _ _ _ => none, fun _ _ _ _ _ _ _ _ _ _ _ _ => none, fun _ _ _ _ _ _ _ _ _ _ _ _ _ _ _ _ _ _ _ => none, fun _ _ _ _ _ _ _ _ => none, fun _ _ _ _ _ _ _ _ _ _ _ _ _ _ _ _ _ _ _ _ _ => none, fun _ _ _ _ _ _ _ _ _ _ _ _ _ _ _ _ _ _ _ => none, fun _ _ _ _ _ _ _ _ _ _ _ _ _ _ _ _ _ _ _ _ => none, fun _ _ _ _ _ _ _ _ _ _ _ _ _ _ _ _ => none, fun _ _ _ _ _ _ _ _ _ _ _ _ _ _ _ => none, fun _ _ _ _ _ _ _ _ _ _ _ _ _ _ _ => none, fun _ _ _ _ _ _ _ _ _ _ _ _ _ _ _ => none, fun _ _ _ _ _ _ _ _ _ _ _ _ _ _ _ => none, fun _ _ _ _ _ _ _ _ _ _ _ _ _ _ _ => none, fun _ _ _ _ _ _ _ _ _ _ _ _ _ _ _ => none, fun _ _ _ _ _ _ _ _ _ _ _ _ _ _ _ _ _ _ _ _ => none, fun _ _ _ _ _ _ _ _ _ _ _ _ _ _ _ _ _ _ _ _ => none, fun _ _ _ _ _ _ _ _ _ _ _ _ _ _ _ _ _ => none, fun _ _ _ _ _ _ _ _ _ _ _ _ _ _ _ _ => none, fun _ _ _ _ _ _ _ _ _ _ _ => none, fun _ _ _ _ => none, fun _ _ _ _ _ _ => none, fun _ _ _ _ _ _ => none, fun _ _ => none, fun _ _ _ _ _ _ _ _ _ => none, fun _ _ _ _ _ _ _ _ _ _ _ _ _ _ _ _ _ _ _ _ _ _ _ _ _ _ => none, fun _ _ => none, fun _ => none, fun _ _ _ _ => none, fun _ _ _ _ _ _ _ _ _ _ _ _ => none, fun _ => none, fun _ _ _ _ _ => none, fun _ _ => none, fun _ => none, fun _ => none, fun _ => none, fun _ => none, fun _ _ => none, fun _ _ => none, none, fun _ => none, fun _ => none, fun _ => none, fun _ _ => none, fun _ => none, fun _ => none, fun _ _ _ _ _ _ _ _ _ _ _ _ _ _ _ _ _ _ _ _ _ _ => none, fun _ => none, fun _ => none, fun _ _ _ => none, fun _ _ _ => none, fun _ _ _ _ => none, fun _ _ _ _ _ _ _ => none, fun _ _ _ _ => none, fun _ _ _ _ _ _ _ => none, fun _ _ => none, fun _ => none, fun _ => none, fun _ => none, fun _ => none, fun _ _ => none, fun _ => none, fun _ _ => none, fun _ _ _ => none, fun _ => none, fun _ => none, fun _ => none, fun _ _ _ => none, fun _ => none, fun _ => none, fun _ _ _ => none, fun _ => none, fun _ _ _ _ _ => none, fun _ _ => none, fun _ => none, fun _ _ _ _ _ _ _ _ _ _ _ => none, fun _ _ _ _ _ _ _ _ => none, fun _ _ _ _ _ _ => none, fun _ _ _ _ _ _ _ _ _ _ _ _ _ _ _ _ _ _ _ _ => none, fun _ _ _ _ _ _ => none, fun _ _ _ => none, fun _ _ => none, fun _ _ _ => none, fun _ _ _ _ _ _ _ _ _ => none, fun _ _ _ => none, fun _ _ => none⟩
 | n + 1 => ⟨Av_b (lv n) n, Dt_b (lv n) n, Br_b (lv n) n, C2_b (lv n) n, Ah_b (lv n) n, Cq_b (lv n) n, Ar_b (lv n) n, Bh_b (lv n) n, B3_b (lv n) n, Bd_b (lv n) n, Bl_b (lv n) n, B4_b (lv n) n, Ce_b (lv n) n, Ao_b (lv n) n, Bs_b (lv n) n, C8_b (lv n) n, B9_b (lv n) n, Cv_b (lv n) n, Cw_b (lv n) n, Cx_b (lv n) n, Cg_b (lv n) n, Ch_b (lv n) n, Ci_b (lv n) n, Dw_b (lv n) n, C9_b (lv n) n, Dn_b (lv n) n, Ca_b (lv n) n, Dm_b (lv n) n, Cj_b (lv n) n, Dv_b (lv n) n, C5_b (lv n) n, B7_b (lv n) n, At_b (lv n) n, Dd_b (lv n) n, B6_b (lv n) n, Dr_b (lv n) n, Dc_b (lv n) n, Dl_b (lv n) n, A9_b (lv n) n, Dq_b (lv n) n, Df_b (lv n) n, C3_b (lv n) n, B1_b (lv n) n, Bv_b (lv n) n, Db_b (lv n) n, An_b (lv n) n, B0_b (lv n) n, Do_b (lv n) n, Bp_b (lv n) n, B5_b (lv n) n, Bi_b (lv n) n, Dp_b (lv n) n, Dh_b (lv n) n, Dg_b (lv n) n, Co_b (lv n) n, Cf_b (lv n) n, Da_b (lv n) n, Dj_b (lv n) n, Du_b (lv n) n, Bg_b (lv n) n, Bm_b (lv n) n, Bb_b (lv n) n, Aj_b (lv n) n, Dk_b (lv n) n, Bf_b (lv n) n, Bx_b (lv n) n, Ba_b (lv n) n, Cu_b (lv n) n, Bc_b (lv n) n, Cp_b (lv n) n, Ag_b (lv n) n, Ap_b (lv n) n, Bj_b (lv n) n, C0_b (lv n) n, C1_b (lv n) n, Bt_b (lv n) n, Cz_b (lv n) n, Di_b (lv n) n, B8_b (lv n) n, A5_b (lv n) n, A6_b (lv n) n, De_b (lv n) n, Bo_b (lv n) n, Cd_b (lv n) n, Cc_b (lv n) n, Bn_b (lv n) n, A8_b (lv n) n, Ab_b (lv n) n, Cm_b (lv n) n, Bz_b (lv n) n, Cn_b (lv n) n, A7_b (lv n) n, By_b (lv n) n, Bu_b (lv n) n⟩
noncomputable abbrev CL (n : Nat) : FuncId → List Arg → Option Res := call Try.prog Kp kp n
def OKo (n : Nat) (o : Lv → {Ω : Type} → FuncId → List Arg → (Res → Option Ω) → Option Ω → Option Ω) : Prop := (∀ m, n = m + 1 → ∀ {Ω : Type}, Gm (Ω := Ω) (CL m) (orK (lv m))) → ∀ {Ω : Type} {f : FuncId} {l : List Arg} {K : Res → Option Ω} {next : Option Ω} {r : Ω}, o (lv n) f l K next = some r → (∃ R, CL n f l = some R ∧ K R = some r) ∨ next = some r
theorem Av_lv (n : Nat) : (lv (n + 1)).Av = Av_b (lv n) n := by kernel_rfl
theorem Av_up (xa xb xc x1) {Q} (h : Tot (fun n _ _ => Av_b (lv n) n xa xb xc x1) Q) : Tot (fun n _ _ => (lv n).Av xa xb xc x1) Q := Tot.up (fun n => by rw [Av_lv]) h
theorem Av_ok (n : Nat) : OKo n Av_o := fun ih {_ _ _ _ _ _} h => by
 refine A3 (cl := CL n) (dr := Av_d) (A0 Av_k Av_c) (Ad (.t (.one false)) [] Av_t) (fun a v h => ?_) h
 cases n with
 | zero => cases h
 | succ n => rw [Av_lv, Av_b, Az] at h; exact Ax Ay (ih n rfl) rfl (enc := Av_r) (Ad (.t (.one false)) [] Av_t) h
theorem Dt_lv (n : Nat) : (lv (n + 1)).Dt = Dt_b (lv n) n := by kernel_rfl
theorem Dt_ok (n : Nat) : OKo n Dt_o := fun ih {_ _ _ _ _ _} h => by
 refine A3 (cl := CL n) (dr := Dt_d) (A0 Dt_k Dt_c) (Ad (.t (.one false)) [] Dt_t) (fun a v h => ?_) h
 cases n with
 | zero => cases h
 | succ n => rw [Dt_lv, Dt_b, Az] at h; exact Ax Ay (ih n rfl) rfl (enc := Dt_r) (Ad (.t (.one false)) [] Dt_t) h
theorem Br_lv (n : Nat) : (lv (n + 1)).Br = Br_b (lv n) n := by kernel_rfl
theorem Br_up (xa xb xc) {Q} (h : Tot (fun n _ _ => Br_b (lv n) n xa xb xc) Q) : Tot (fun n _ _ => (lv n).Br xa xb xc) Q := Tot.up (fun n => by rw [Br_lv]) h
theorem Br_ok (n : Nat) : OKo n Br_o := fun ih {_ _ _ _ _ _} h => by
 refine A3 (cl := CL n) (dr := Br_d) (A0 Br_k Br_c) (Ad (.t (.agg [true, true, true, false, false, false, false, false])) [] Br_t) (fun a v h => ?_) h
 cases n with
 | zero => cases h
 | succ n => rw [Br_lv, Br_b, Az] at h; exact Ax Ay (ih n rfl) rfl (enc := Br_r) (Ad (.t (.agg [true, true, true, false, false, false, false, false])) [] Br_t) h
theorem C2_lv (n : Nat) : (lv (n + 1)).C2 = C2_b (lv n) n := by kernel_rfl
theorem C2_up (xa xb xc) {Q} (h : Tot (fun n _ _ => C2_b (lv n) n xa xb xc) Q) : Tot (fun n _ _ => (lv n).C2 xa xb xc) Q := Tot.up (fun n => by rw [C2_lv]) h
theorem C2_ok (n : Nat) : OKo n C2_o := fun ih {_ _ _ _ _ _} h => by
 refine A3 (cl := CL n) (dr := C2_d) (A0 C2_k C2_c) (Ad (.t (.agg [false, false, false, false, false])) [] C2_t) (fun a v h => ?_) h
 cases n with
 | zero => cases h
 | succ n => rw [C2_lv, C2_b, Az] at h; exact Ax Ay (ih n rfl) rfl (enc := C2_r) (Ad (.t (.agg [false, false, false, false, false])) [] C2_t) h
theorem Ah_lv (n : Nat) : (lv (n + 1)).Ah = Ah_b (lv n) n := by kernel_rfl
theorem Ah_up (xa xb xc xf xg xd xe xh) {Q} (h : Tot (fun n _ _ => Ah_b (lv n) n xa xb xc xf xg xd xe xh) Q) : Tot (fun n _ _ => (lv n).Ah xa xb xc xf xg xd xe xh) Q := Tot.up (fun n => by rw [Ah_lv]) h
theorem Ah_ok (n : Nat) : OKo n Ah_o := fun ih {_ _ _ _ _ _} h => by
 refine A3 (cl := CL n) (dr := Ah_d) (A0 Ah_k Ah_c) (Ad (.t (.agg [false, false, false, false, false, false, false])) [] Ah_t) (fun a v h => ?_) h
 cases n with
 | zero => cases h
 | succ n => rw [Ah_lv, Ah_b, Az] at h; exact Ax Ay (ih n rfl) rfl (enc := Ah_r) (Ad (.t (.agg [false, false, false, false, false, false, false])) [] Ah_t) h
theorem Cq_lv (n : Nat) : (lv (n + 1)).Cq = Cq_b (lv n) n := by kernel_rfl
theorem Cq_up (xa xb xc xf xg x1 x2 x3 x4) {Q} (h : Tot (fun n _ _ => Cq_b (lv n) n xa xb xc xf xg x1 x2 x3 x4) Q) : Tot (fun n _ _ => (lv n).Cq xa xb xc xf xg x1 x2 x3 x4) Q := Tot.up (fun n => by rw [Cq_lv]) h
theorem Cq_ok (n : Nat) : OKo n Cq_o := fun ih {_ _ _ _ _ _} h => by
 refine A3 (cl := CL n) (dr := Cq_d) (A0 Cq_k Cq_c) (Ad (.t (.agg [false, false, false, true, false])) [] Cq_t) (fun a v h => ?_) h
 cases n with
 | zero => cases h
 | succ n => rw [Cq_lv, Cq_b, Az] at h; exact Ax Ay (ih n rfl) rfl (enc := Cq_r) (Ad (.t (.agg [false, false, false, true, false])) [] Cq_t) h
theorem Ar_lv (n : Nat) : (lv (n + 1)).Ar = Ar_b (lv n) n := by kernel_rfl
theorem Ar_up (xa xb xc) {Q} (h : Tot (fun n _ _ => Ar_b (lv n) n xa xb xc) Q) : Tot (fun n _ _ => (lv n).Ar xa xb xc) Q := Tot.up (fun n => by rw [Ar_lv]) h
theorem Ar_ok (n : Nat) : OKo n Ar_o := fun ih {_ _ _ _ _ _} h => by
 refine A3 (cl := CL n) (dr := Ar_d) (A0 Ar_k Ar_c) (Ad (.t (.one true)) [] Ar_t) (fun a v h => ?_) h
 cases n with
 | zero => cases h
 | succ n => rw [Ar_lv, Ar_b, Az] at h; exact Ax Ay (ih n rfl) rfl (enc := Ar_r) (Ad (.t (.one true)) [] Ar_t) h
theorem Bh_lv (n : Nat) : (lv (n + 1)).Bh = Bh_b (lv n) n := by kernel_rfl
theorem Bh_up (xa xb xc xf xg xi) {Q} (h : Tot (fun n _ _ => Bh_b (lv n) n xa xb xc xf xg xi) Q) : Tot (fun n _ _ => (lv n).Bh xa xb xc xf xg xi) Q := Tot.up (fun n => by rw [Bh_lv]) h
theorem Bh_ok (n : Nat) : OKo n Bh_o := fun ih {_ _ _ _ _ _} h => by
 refine A3 (cl := CL n) (dr := Bh_d) (A0 Bh_k Bh_c) (Ad (.t (.one true)) [] Bh_t) (fun a v h => ?_) h
 cases n with
 | zero => cases h
 | succ n => rw [Bh_lv, Bh_b, Az] at h; exact Ax Ay (ih n rfl) rfl (enc := Bh_r) (Ad (.t (.one true)) [] Bh_t) h
theorem B3_lv (n : Nat) : (lv (n + 1)).B3 = B3_b (lv n) n := by kernel_rfl
theorem B3_up (xa xb xc xf xg xi xj xk xd xe xh) {Q} (h : Tot (fun n _ _ => B3_b (lv n) n xa xb xc xf xg xi xj xk xd xe xh) Q) : Tot (fun n _ _ => (lv n).B3 xa xb xc xf xg xi xj xk xd xe xh) Q := Tot.up (fun n => by rw [B3_lv]) h
theorem B3_ok (n : Nat) : OKo n B3_o := fun ih {_ _ _ _ _ _} h => by
 refine A3 (cl := CL n) (dr := B3_d) (A0 B3_k B3_c) (Ad (.t (.one false)) [] B3_t) (fun a v h => ?_) h
 cases n with
 | zero => cases h
 | succ n => rw [B3_lv, B3_b, Az] at h; exact Ax Ay (ih n rfl) rfl (enc := B3_r) (Ad (.t (.one false)) [] B3_t) h
theorem Bd_lv (n : Nat) : (lv (n + 1)).Bd = Bd_b (lv n) n := by kernel_rfl
theorem Bd_up (xa xb xc xd xe xh) {Q} (h : Tot (fun n _ _ => Bd_b (lv n) n xa xb xc xd xe xh) Q) : Tot (fun n _ _ => (lv n).Bd xa xb xc xd xe xh) Q := Tot.up (fun n => by rw [Bd_lv]) h
theorem Bd_ok (n : Nat) : OKo n Bd_o := fun ih {_ _ _ _ _ _} h => by
 refine A3 (cl := CL n) (dr := Bd_d) (A0 Bd_k Bd_c) (Ad (.t (.one false)) [] Bd_t) (fun a v h => ?_) h
 cases n with
 | zero => cases h
 | succ n => rw [Bd_lv, Bd_b, Az] at h; exact Ax Ay (ih n rfl) rfl (enc := Bd_r) (Ad (.t (.one false)) [] Bd_t) h
theorem Bl_lv (n : Nat) : (lv (n + 1)).Bl = Bl_b (lv n) n := by kernel_rfl
theorem Bl_up (xa xb xc xf xg xi xd xe xh xl xm xn) {Q} (h : Tot (fun n _ _ => Bl_b (lv n) n xa xb xc xf xg xi xd xe xh xl xm xn) Q) : Tot (fun n _ _ => (lv n).Bl xa xb xc xf xg xi xd xe xh xl xm xn) Q := Tot.up (fun n => by rw [Bl_lv]) h
theorem Bl_ok (n : Nat) : OKo n Bl_o := fun ih {_ _ _ _ _ _} h => by
 refine A3 (cl := CL n) (dr := Bl_d) (A0 Bl_k Bl_c) (Ad (.t (.one false)) [] Bl_t) (fun a v h => ?_) h
 cases n with
 | zero => cases h
 | succ n => rw [Bl_lv, Bl_b, Az] at h; exact Ax Ay (ih n rfl) rfl (enc := Bl_r) (Ad (.t (.one false)) [] Bl_t) h
theorem B4_lv (n : Nat) : (lv (n + 1)).B4 = B4_b (lv n) n := by kernel_rfl
theorem B4_up (xa xb xc xf xg xi xj xk xd xe xh xl xm yc yd ye yn yo yp) {Q} (h : Tot (fun n _ _ => B4_b (lv n) n xa xb xc xf xg xi xj xk xd xe xh xl xm yc yd ye yn yo yp) Q) : Tot (fun n _ _ => (lv n).B4 xa xb xc xf xg xi xj xk xd xe xh xl xm yc yd ye yn yo yp) Q := Tot.up (fun n => by rw [B4_lv]) h
theorem B4_ok (n : Nat) : OKo n B4_o := fun ih {_ _ _ _ _ _} h => by
 refine A3 (cl := CL n) (dr := B4_d) (A0 B4_k B4_c) (Ad (.t (.agg [false, false, false])) [] B4_t) (fun a v h => ?_) h
 cases n with
 | zero => cases h
 | succ n => rw [B4_lv, B4_b, Az] at h; exact Ax Ay (ih n rfl) rfl (enc := B4_r) (Ad (.t (.agg [false, false, false])) [] B4_t) h
theorem Ce_lv (n : Nat) : (lv (n + 1)).Ce = Ce_b (lv n) n := by kernel_rfl
theorem Ce_up (xa xb xc xf xg xi xj xk) {Q} (h : Tot (fun n _ _ => Ce_b (lv n) n xa xb xc xf xg xi xj xk) Q) : Tot (fun n _ _ => (lv n).Ce xa xb xc xf xg xi xj xk) Q := Tot.up (fun n => by rw [Ce_lv]) h
theorem Ce_ok (n : Nat) : OKo n Ce_o := fun ih {_ _ _ _ _ _} h => by
 refine A3 (cl := CL n) (dr := Ce_d) (A0 Ce_k Ce_c) (Ad (.t (.one false)) [] Ce_t) (fun a v h => ?_) h
 cases n with
 | zero => cases h
 | succ n => rw [Ce_lv, Ce_b, Az] at h; exact Ax Ay (ih n rfl) rfl (enc := Ce_r) (Ad (.t (.one false)) [] Ce_t) h
theorem Ao_lv (n : Nat) : (lv (n + 1)).Ao = Ao_b (lv n) n := by kernel_rfl
theorem Ao_up (xa xb xc xf xg xi xj xk xs xt xo xp xq xr yg yh yi yj yk yl x1) {Q} (h : Tot (fun n _ _ => Ao_b (lv n) n xa xb xc xf xg xi xj xk xs xt xo xp xq xr yg yh yi yj yk yl x1) Q) : Tot (fun n _ _ => (lv n).Ao xa xb xc xf xg xi xj xk xs xt xo xp xq xr yg yh yi yj yk yl x1) Q := Tot.up (fun n => by rw [Ao_lv]) h
theorem Ao_ok (n : Nat) : OKo n Ao_o := fun ih {_ _ _ _ _ _} h => by
 refine A3 (cl := CL n) (dr := Ao_d) (A0 Ao_k Ao_c) (Ad (.tup []) [[false, false, false, false, false, false, false, false, false, false, false, false, false, false, false, false, false, false, false, true]] Ao_t) (fun a v h => ?_) h
 cases n with
 | zero => cases h
 | succ n => rw [Ao_lv, Ao_b, Az] at h; exact Ax Ay (ih n rfl) rfl (enc := Ao_r) (Ad (.tup []) [[false, false, false, false, false, false, false, false, false, false, false, false, false, false, false, false, false, false, false, true]] Ao_t) h
theorem Bs_lv (n : Nat) : (lv (n + 1)).Bs = Bs_b (lv n) n := by kernel_rfl
theorem Bs_up (xa xb xc xf xg xi xj xk xd xe xh xl xm yc yd ye yf ym x3) {Q} (h : Tot (fun n _ _ => Bs_b (lv n) n xa xb xc xf xg xi xj xk xd xe xh xl xm yc yd ye yf ym x3) Q) : Tot (fun n _ _ => (lv n).Bs xa xb xc xf xg xi xj xk xd xe xh xl xm yc yd ye yf ym x3) Q := Tot.up (fun n => by rw [Bs_lv]) h
theorem Bs_ok (n : Nat) : OKo n Bs_o := fun ih {_ _ _ _ _ _} h => by
 refine A3 (cl := CL n) (dr := Bs_d) (A0 Bs_k Bs_c) (Ad (.t (.one true)) [] Bs_t) (fun a v h => ?_) h
 cases n with
 | zero => cases h
 | succ n => rw [Bs_lv, Bs_b, Az] at h; exact Ax Ay (ih n rfl) rfl (enc := Bs_r) (Ad (.t (.one true)) [] Bs_t) h
theorem C8_lv (n : Nat) : (lv (n + 1)).C8 = C8_b (lv n) n := by kernel_rfl
theorem C8_up (xa xb xc xf xg xi xj xk xs xt xo xp xq xr xd xe xh xl xm xn) {Q} (h : Tot (fun n _ _ => C8_b (lv n) n xa xb xc xf xg xi xj xk xs xt xo xp xq xr xd xe xh xl xm xn) Q) : Tot (fun n _ _ => (lv n).C8 xa xb xc xf xg xi xj xk xs xt xo xp xq xr xd xe xh xl xm xn) Q := Tot.up (fun n => by rw [C8_lv]) h
theorem C8_ok (n : Nat) : OKo n C8_o := fun ih {_ _ _ _ _ _} h => by
 refine A3 (cl := CL n) (dr := C8_d) (A0 C8_k C8_c) (Ad (.t (.one false)) [[false, false, false, false, false, false, false, false, false, false, false, false, false, false]] C8_t) (fun a v h => ?_) h
 cases n with
 | zero => cases h
 | succ n => rw [C8_lv, C8_b, Az] at h; exact Ax Ay (ih n rfl) rfl (enc := C8_r) (Ad (.t (.one false)) [[false, false, false, false, false, false, false, false, false, false, false, false, false, false]] C8_t) h
theorem B9_lv (n : Nat) : (lv (n + 1)).B9 = B9_b (lv n) n := by kernel_rfl
theorem B9_up (xa xb xc xf xg xi xj xk xs xt xo xp xq xr xd xe) {Q} (h : Tot (fun n _ _ => B9_b (lv n) n xa xb xc xf xg xi xj xk xs xt xo xp xq xr xd xe) Q) : Tot (fun n _ _ => (lv n).B9 xa xb xc xf xg xi xj xk xs xt xo xp xq xr xd xe) Q := Tot.up (fun n => by rw [B9_lv]) h
theorem B9_ok (n : Nat) : OKo n B9_o := fun ih {_ _ _ _ _ _} h => by
 refine A3 (cl := CL n) (dr := B9_d) (A0 B9_k B9_c) (Ad (.tup [.one false, .one false]) [[false, false, false, false, false, false, false, false, false, false, false, false, false, false]] B9_t) (fun a v h => ?_) h
 cases n with
 | zero => cases h
 | succ n => rw [B9_lv, B9_b, Az] at h; exact Ax Ay (ih n rfl) rfl (enc := B9_r) (Ad (.tup [.one false, .one false]) [[false, false, false, false, false, false, false, false, false, false, false, false, false, false]] B9_t) h
theorem Cv_lv (n : Nat) : (lv (n + 1)).Cv = Cv_b (lv n) n := by kernel_rfl
theorem Cv_up (x0 xd xe xh xl xm xn xy xz ya yb xu xv xw xx) {Q} (h : Tot (fun n _ _ => Cv_b (lv n) n x0 xd xe xh xl xm xn xy xz ya yb xu xv xw xx) Q) : Tot (fun n _ _ => (lv n).Cv x0 xd xe xh xl xm xn xy xz ya yb xu xv xw xx) Q := Tot.up (fun n => by rw [Cv_lv]) h
theorem Cv_ok (n : Nat) : OKo n Cv_o := fun ih {_ _ _ _ _ _} h => by
 refine A3 (cl := CL n) (dr := Cv_d) (A0 Cv_k Cv_c) (Ad (.t (.one false)) [] Cv_t) (fun a v h => ?_) h
 cases n with
 | zero => cases h
 | succ n => rw [Cv_lv, Cv_b, Az] at h; exact Ax Ay (ih n rfl) rfl (enc := Cv_r) (Ad (.t (.one false)) [] Cv_t) h
theorem Cw_lv (n : Nat) : (lv (n + 1)).Cw = Cw_b (lv n) n := by kernel_rfl
theorem Cw_up (x0 xd xe xh xl xm xn xy xz ya yb xu xv xw xx) {Q} (h : Tot (fun n _ _ => Cw_b (lv n) n x0 xd xe xh xl xm xn xy xz ya yb xu xv xw xx) Q) : Tot (fun n _ _ => (lv n).Cw x0 xd xe xh xl xm xn xy xz ya yb xu xv xw xx) Q := Tot.up (fun n => by rw [Cw_lv]) h
theorem Cw_ok (n : Nat) : OKo n Cw_o := fun ih {_ _ _ _ _ _} h => by
 refine A3 (cl := CL n) (dr := Cw_d) (A0 Cw_k Cw_c) (Ad (.t (.one false)) [] Cw_t) (fun a v h => ?_) h
 cases n with
 | zero => cases h
 | succ n => rw [Cw_lv, Cw_b, Az] at h; exact Ax Ay (ih n rfl) rfl (enc := Cw_r) (Ad (.t (.one false)) [] Cw_t) h
theorem Cx_lv (n : Nat) : (lv (n + 1)).Cx = Cx_b (lv n) n := by kernel_rfl
theorem Cx_up (x0 xd xe xh xl xm xn xy xz ya yb xu xv xw xx) {Q} (h : Tot (fun n _ _ => Cx_b (lv n) n x0 xd xe xh xl xm xn xy xz ya yb xu xv xw xx) Q) : Tot (fun n _ _ => (lv n).Cx x0 xd xe xh xl xm xn xy xz ya yb xu xv xw xx) Q := Tot.up (fun n => by rw [Cx_lv]) h
theorem Cx_ok (n : Nat) : OKo n Cx_o := fun ih {_ _ _ _ _ _} h => by
 refine A3 (cl := CL n) (dr := Cx_d) (A0 Cx_k Cx_c) (Ad (.t (.one false)) [] Cx_t) (fun a v h => ?_) h
 cases n with
 | zero => cases h
 | succ n => rw [Cx_lv, Cx_b, Az] at h; exact Ax Ay (ih n rfl) rfl (enc := Cx_r) (Ad (.t (.one false)) [] Cx_t) h
theorem Cg_lv (n : Nat) : (lv (n + 1)).Cg = Cg_b (lv n) n := by kernel_rfl
theorem Cg_up (x0 xd xe xh xl xm xn xy xz ya yb xu xv xw xx) {Q} (h : Tot (fun n _ _ => Cg_b (lv n) n x0 xd xe xh xl xm xn xy xz ya yb xu xv xw xx) Q) : Tot (fun n _ _ => (lv n).Cg x0 xd xe xh xl xm xn xy xz ya yb xu xv xw xx) Q := Tot.up (fun n => by rw [Cg_lv]) h
theorem Cg_ok (n : Nat) : OKo n Cg_o := fun ih {_ _ _ _ _ _} h => by
 refine A3 (cl := CL n) (dr := Cg_d) (A0 Cg_k Cg_c) (Ad (.t (.one false)) [] Cg_t) (fun a v h => ?_) h
 cases n with
 | zero => cases h
 | succ n => rw [Cg_lv, Cg_b, Az] at h; exact Ax Ay (ih n rfl) rfl (enc := Cg_r) (Ad (.t (.one false)) [] Cg_t) h
theorem Ch_lv (n : Nat) : (lv (n + 1)).Ch = Ch_b (lv n) n := by kernel_rfl
theorem Ch_up (x0 xd xe xh xl xm xn xy xz ya yb xu xv xw xx) {Q} (h : Tot (fun n _ _ => Ch_b (lv n) n x0 xd xe xh xl xm xn xy xz ya yb xu xv xw xx) Q) : Tot (fun n _ _ => (lv n).Ch x0 xd xe xh xl xm xn xy xz ya yb xu xv xw xx) Q := Tot.up (fun n => by rw [Ch_lv]) h
theorem Ch_ok (n : Nat) : OKo n Ch_o := fun ih {_ _ _ _ _ _} h => by
 refine A3 (cl := CL n) (dr := Ch_d) (A0 Ch_k Ch_c) (Ad (.t (.one false)) [] Ch_t) (fun a v h => ?_) h
 cases n with
 | zero => cases h
 | succ n => rw [Ch_lv, Ch_b, Az] at h; exact Ax Ay (ih n rfl) rfl (enc := Ch_r) (Ad (.t (.one false)) [] Ch_t) h
theorem Ci_lv (n : Nat) : (lv (n + 1)).Ci = Ci_b (lv n) n := by kernel_rfl
theorem Ci_up (x0 xd xe xh xl xm xn xy xz ya yb xu xv xw xx) {Q} (h : Tot (fun n _ _ => Ci_b (lv n) n x0 xd xe xh xl xm xn xy xz ya yb xu xv xw xx) Q) : Tot (fun n _ _ => (lv n).Ci x0 xd xe xh xl xm xn xy xz ya yb xu xv xw xx) Q := Tot.up (fun n => by rw [Ci_lv]) h
theorem Ci_ok (n : Nat) : OKo n Ci_o := fun ih {_ _ _ _ _ _} h => by
 refine A3 (cl := CL n) (dr := Ci_d) (A0 Ci_k Ci_c) (Ad (.t (.one false)) [] Ci_t) (fun a v h => ?_) h
 cases n with
 | zero => cases h
 | succ n => rw [Ci_lv, Ci_b, Az] at h; exact Ax Ay (ih n rfl) rfl (enc := Ci_r) (Ad (.t (.one false)) [] Ci_t) h
theorem Dw_lv (n : Nat) : (lv (n + 1)).Dw = Dw_b (lv n) n := by kernel_rfl
theorem Dw_up (xa xb xc xf xg xi xj xk xs xt xo xp xq xr xd xe xh xl xm xn) {Q} (h : Tot (fun n _ _ => Dw_b (lv n) n xa xb xc xf xg xi xj xk xs xt xo xp xq xr xd xe xh xl xm xn) Q) : Tot (fun n _ _ => (lv n).Dw xa xb xc xf xg xi xj xk xs xt xo xp xq xr xd xe xh xl xm xn) Q := Tot.up (fun n => by rw [Dw_lv]) h
theorem Dw_ok (n : Nat) : OKo n Dw_o := fun ih {_ _ _ _ _ _} h => by
 refine A3 (cl := CL n) (dr := Dw_d) (A0 Dw_k Dw_c) (Ad (.t (.one false)) [] Dw_t) (fun a v h => ?_) h
 cases n with
 | zero => cases h
 | succ n => rw [Dw_lv, Dw_b, Az] at h; exact Ax Ay (ih n rfl) rfl (enc := Dw_r) (Ad (.t (.one false)) [] Dw_t) h
theorem C9_lv (n : Nat) : (lv (n + 1)).C9 = C9_b (lv n) n := by kernel_rfl
theorem C9_up (xa xb xc xf xg xi xj xk xs xt xo xp xq xr xd xe xh xl xm xn) {Q} (h : Tot (fun n _ _ => C9_b (lv n) n xa xb xc xf xg xi xj xk xs xt xo xp xq xr xd xe xh xl xm xn) Q) : Tot (fun n _ _ => (lv n).C9 xa xb xc xf xg xi xj xk xs xt xo xp xq xr xd xe xh xl xm xn) Q := Tot.up (fun n => by rw [C9_lv]) h
theorem C9_ok (n : Nat) : OKo n C9_o := fun ih {_ _ _ _ _ _} h => by
 refine A3 (cl := CL n) (dr := C9_d) (A0 C9_k C9_c) (Ad (.t (.one false)) [] C9_t) (fun a v h => ?_) h
 cases n with
 | zero => cases h
 | succ n => rw [C9_lv, C9_b, Az] at h; exact Ax Ay (ih n rfl) rfl (enc := C9_r) (Ad (.t (.one false)) [] C9_t) h
theorem Dn_lv (n : Nat) : (lv (n + 1)).Dn = Dn_b (lv n) n := by kernel_rfl
theorem Dn_up (xa xb xc xf xg xi xj xk xs xt xo xp xq xr xd xe xh) {Q} (h : Tot (fun n _ _ => Dn_b (lv n) n xa xb xc xf xg xi xj xk xs xt xo xp xq xr xd xe xh) Q) : Tot (fun n _ _ => (lv n).Dn xa xb xc xf xg xi xj xk xs xt xo xp xq xr xd xe xh) Q := Tot.up (fun n => by rw [Dn_lv]) h
theorem Dn_ok (n : Nat) : OKo n Dn_o := fun ih {_ _ _ _ _ _} h => by
 refine A3 (cl := CL n) (dr := Dn_d) (A0 Dn_k Dn_c) (Ad (.t (.one false)) [] Dn_t) (fun a v h => ?_) h
 cases n with
 | zero => cases h
 | succ n => rw [Dn_lv, Dn_b, Az] at h; exact Ax Ay (ih n rfl) rfl (enc := Dn_r) (Ad (.t (.one false)) [] Dn_t) h
theorem Ca_lv (n : Nat) : (lv (n + 1)).Ca = Ca_b (lv n) n := by kernel_rfl
theorem Ca_up (xa xb xc xf xg xi xj xk xs xt xo xp xq xr xd xe) {Q} (h : Tot (fun n _ _ => Ca_b (lv n) n xa xb xc xf xg xi xj xk xs xt xo xp xq xr xd xe) Q) : Tot (fun n _ _ => (lv n).Ca xa xb xc xf xg xi xj xk xs xt xo xp xq xr xd xe) Q := Tot.up (fun n => by rw [Ca_lv]) h
theorem Ca_ok (n : Nat) : OKo n Ca_o := fun ih {_ _ _ _ _ _} h => by
 refine A3 (cl := CL n) (dr := Ca_d) (A0 Ca_k Ca_c) (Ad (.tup [.one false, .one false]) [] Ca_t) (fun a v h => ?_) h
 cases n with
 | zero => cases h
 | succ n => rw [Ca_lv, Ca_b, Az] at h; exact Ax Ay (ih n rfl) rfl (enc := Ca_r) (Ad (.tup [.one false, .one false]) [] Ca_t) h
theorem Dm_lv (n : Nat) : (lv (n + 1)).Dm = Dm_b (lv n) n := by kernel_rfl
theorem Dm_up (xa xb xc xf xg xi xj xk xd xe xh) {Q} (h : Tot (fun n _ _ => Dm_b (lv n) n xa xb xc xf xg xi xj xk xd xe xh) Q) : Tot (fun n _ _ => (lv n).Dm xa xb xc xf xg xi xj xk xd xe xh) Q := Tot.up (fun n => by rw [Dm_lv]) h
theorem Dm_ok (n : Nat) : OKo n Dm_o := fun ih {_ _ _ _ _ _} h => by
 refine A3 (cl := CL n) (dr := Dm_d) (A0 Dm_k Dm_c) (Ad (.t (.one false)) [] Dm_t) (fun a v h => ?_) h
 cases n with
 | zero => cases h
 | succ n => rw [Dm_lv, Dm_b, Az] at h; exact Ax Ay (ih n rfl) rfl (enc := Dm_r) (Ad (.t (.one false)) [] Dm_t) h
theorem Cj_lv (n : Nat) : (lv (n + 1)).Cj = Cj_b (lv n) n := by kernel_rfl
theorem Cj_up (x0 xd xe xh) {Q} (h : Tot (fun n _ _ => Cj_b (lv n) n x0 xd xe xh) Q) : Tot (fun n _ _ => (lv n).Cj x0 xd xe xh) Q := Tot.up (fun n => by rw [Cj_lv]) h
theorem Cj_ok (n : Nat) : OKo n Cj_o := fun ih {_ _ _ _ _ _} h => by
 refine A3 (cl := CL n) (dr := Cj_d) (A0 Cj_k Cj_c) (Ad (.t (.one false)) [] Cj_t) (fun a v h => ?_) h
 cases n with
 | zero => cases h
 | succ n => rw [Cj_lv, Cj_b, Az] at h; exact Ax Ay (ih n rfl) rfl (enc := Cj_r) (Ad (.t (.one false)) [] Cj_t) h
theorem Dv_lv (n : Nat) : (lv (n + 1)).Dv = Dv_b (lv n) n := by kernel_rfl
theorem Dv_up (xa xb xc xd xe xh) {Q} (h : Tot (fun n _ _ => Dv_b (lv n) n xa xb xc xd xe xh) Q) : Tot (fun n _ _ => (lv n).Dv xa xb xc xd xe xh) Q := Tot.up (fun n => by rw [Dv_lv]) h
theorem Dv_ok (n : Nat) : OKo n Dv_o := fun ih {_ _ _ _ _ _} h => by
 refine A3 (cl := CL n) (dr := Dv_d) (A0 Dv_k Dv_c) (Ad (.t (.one false)) [] Dv_t) (fun a v h => ?_) h
 cases n with
 | zero => cases h
 | succ n => rw [Dv_lv, Dv_b, Az] at h; exact Ax Ay (ih n rfl) rfl (enc := Dv_r) (Ad (.t (.one false)) [] Dv_t) h
theorem C5_lv (n : Nat) : (lv (n + 1)).C5 = C5_b (lv n) n := by kernel_rfl
theorem C5_up (xa xb xc xd xe xh) {Q} (h : Tot (fun n _ _ => C5_b (lv n) n xa xb xc xd xe xh) Q) : Tot (fun n _ _ => (lv n).C5 xa xb xc xd xe xh) Q := Tot.up (fun n => by rw [C5_lv]) h
theorem C5_ok (n : Nat) : OKo n C5_o := fun ih {_ _ _ _ _ _} h => by
 refine A3 (cl := CL n) (dr := C5_d) (A0 C5_k C5_c) (Ad (.t (.one false)) [] C5_t) (fun a v h => ?_) h
 cases n with
 | zero => cases h
 | succ n => rw [C5_lv, C5_b, Az] at h; exact Ax Ay (ih n rfl) rfl (enc := C5_r) (Ad (.t (.one false)) [] C5_t) h
theorem B7_lv (n : Nat) : (lv (n + 1)).B7 = B7_b (lv n) n := by kernel_rfl
theorem B7_up (x0 x1) {Q} (h : Tot (fun n _ _ => B7_b (lv n) n x0 x1) Q) : Tot (fun n _ _ => (lv n).B7 x0 x1) Q := Tot.up (fun n => by rw [B7_lv]) h
theorem B7_ok (n : Nat) : OKo n B7_o := fun ih {_ _ _ _ _ _} h => by
 refine A3 (cl := CL n) (dr := B7_d) (A0 B7_k B7_c) (Ad (.t (.one false)) [] B7_t) (fun a v h => ?_) h
 cases n with
 | zero => cases h
 | succ n => rw [B7_lv, B7_b, Az] at h; exact Ax Ay (ih n rfl) rfl (enc := B7_r) (Ad (.t (.one false)) [] B7_t) h
theorem At_lv (n : Nat) : (lv (n + 1)).At = At_b (lv n) n := by kernel_rfl
theorem At_up (xa xb xc xf xg xi xj xk x1) {Q} (h : Tot (fun n _ _ => At_b (lv n) n xa xb xc xf xg xi xj xk x1) Q) : Tot (fun n _ _ => (lv n).At xa xb xc xf xg xi xj xk x1) Q := Tot.up (fun n => by rw [At_lv]) h
theorem At_ok (n : Nat) : OKo n At_o := fun ih {_ _ _ _ _ _} h => by
 refine A3 (cl := CL n) (dr := At_d) (A0 At_k At_c) (Ad (.t (.one true)) [] At_t) (fun a v h => ?_) h
 cases n with
 | zero => cases h
 | succ n => rw [At_lv, At_b, Az] at h; exact Ax Ay (ih n rfl) rfl (enc := At_r) (Ad (.t (.one true)) [] At_t) h
theorem Dd_lv (n : Nat) : (lv (n + 1)).Dd = Dd_b (lv n) n := by kernel_rfl
theorem Dd_up (xa xb xc xf xg xi xj xk xs xt xo xp xq xr yg yh yi yj yk yl x1 yc yd ye yf x3) {Q} (h : Tot (fun n _ _ => Dd_b (lv n) n xa xb xc xf xg xi xj xk xs xt xo xp xq xr yg yh yi yj yk yl x1 yc yd ye yf x3) Q) : Tot (fun n _ _ => (lv n).Dd xa xb xc xf xg xi xj xk xs xt xo xp xq xr yg yh yi yj yk yl x1 yc yd ye yf x3) Q := Tot.up (fun n => by rw [Dd_lv]) h
theorem Dd_ok (n : Nat) : OKo n Dd_o := fun ih {_ _ _ _ _ _} h => by
 refine A3 (cl := CL n) (dr := Dd_d) (A0 Dd_k Dd_c) (Ad (.t (.one false)) [[false, false, false, false, false, false, false, false, false, false, false, false, false, false, false, false, false, false, false, true]] Dd_t) (fun a v h => ?_) h
 cases n with
 | zero => cases h
 | succ n => rw [Dd_lv, Dd_b, Az] at h; exact Ax Ay (ih n rfl) rfl (enc := Dd_r) (Ad (.t (.one false)) [[false, false, false, false, false, false, false, false, false, false, false, false, false, false, false, false, false, false, false, true]] Dd_t) h
theorem B6_lv (n : Nat) : (lv (n + 1)).B6 = B6_b (lv n) n := by kernel_rfl
theorem B6_up (x0 x1) {Q} (h : Tot (fun n _ _ => B6_b (lv n) n x0 x1) Q) : Tot (fun n _ _ => (lv n).B6 x0 x1) Q := Tot.up (fun n => by rw [B6_lv]) h
theorem B6_ok (n : Nat) : OKo n B6_o := fun ih {_ _ _ _ _ _} h => by
 refine A3 (cl := CL n) (dr := B6_d) (A0 B6_k B6_c) (Ad (.t (.one false)) [] B6_t) (fun a v h => ?_) h
 cases n with
 | zero => cases h
 | succ n => rw [B6_lv, B6_b, Az] at h; exact Ax Ay (ih n rfl) rfl (enc := B6_r) (Ad (.t (.one false)) [] B6_t) h
theorem Dr_lv (n : Nat) : (lv (n + 1)).Dr = Dr_b (lv n) n := by kernel_rfl
theorem Dr_up (x0) {Q} (h : Tot (fun n _ _ => Dr_b (lv n) n x0) Q) : Tot (fun n _ _ => (lv n).Dr x0) Q := Tot.up (fun n => by rw [Dr_lv]) h
theorem Dr_ok (n : Nat) : OKo n Dr_o := fun ih {_ _ _ _ _ _} h => by
 refine A3 (cl := CL n) (dr := Dr_d) (A0 Dr_k Dr_c) (Ad (.t (.one false)) [] Dr_t) (fun a v h => ?_) h
 cases n with
 | zero => cases h
 | succ n => rw [Dr_lv, Dr_b, Az] at h; exact Ax Ay (ih n rfl) rfl (enc := Dr_r) (Ad (.t (.one false)) [] Dr_t) h
theorem Dc_lv (n : Nat) : (lv (n + 1)).Dc = Dc_b (lv n) n := by kernel_rfl
theorem Dc_up (xa xb xc x1) {Q} (h : Tot (fun n _ _ => Dc_b (lv n) n xa xb xc x1) Q) : Tot (fun n _ _ => (lv n).Dc xa xb xc x1) Q := Tot.up (fun n => by rw [Dc_lv]) h
theorem Dc_ok (n : Nat) : OKo n Dc_o := fun ih {_ _ _ _ _ _} h => by
 refine A3 (cl := CL n) (dr := Dc_d) (A0 Dc_k Dc_c) (Ad (.t (.one false)) [] Dc_t) (fun a v h => ?_) h
 cases n with
 | zero => cases h
 | succ n => rw [Dc_lv, Dc_b, Az] at h; exact Ax Ay (ih n rfl) rfl (enc := Dc_r) (Ad (.t (.one false)) [] Dc_t) h
theorem Dl_lv (n : Nat) : (lv (n + 1)).Dl = Dl_b (lv n) n := by kernel_rfl
theorem Dl_up (xa xb xc xf xg xi xd xe xh xl xm xn) {Q} (h : Tot (fun n _ _ => Dl_b (lv n) n xa xb xc xf xg xi xd xe xh xl xm xn) Q) : Tot (fun n _ _ => (lv n).Dl xa xb xc xf xg xi xd xe xh xl xm xn) Q := Tot.up (fun n => by rw [Dl_lv]) h
theorem Dl_ok (n : Nat) : OKo n Dl_o := fun ih {_ _ _ _ _ _} h => by
 refine A3 (cl := CL n) (dr := Dl_d) (A0 Dl_k Dl_c) (Ad (.t (.one false)) [] Dl_t) (fun a v h => ?_) h
 cases n with
 | zero => cases h
 | succ n => rw [Dl_lv, Dl_b, Az] at h; exact Ax Ay (ih n rfl) rfl (enc := Dl_r) (Ad (.t (.one false)) [] Dl_t) h
theorem A9_lv (n : Nat) : (lv (n + 1)).A9 = A9_b (lv n) n := by kernel_rfl
theorem A9_up (x0) {Q} (h : Tot (fun n _ _ => A9_b (lv n) n x0) Q) : Tot (fun n _ _ => (lv n).A9 x0) Q := Tot.up (fun n => by rw [A9_lv]) h
theorem A9_ok (n : Nat) : OKo n A9_o := fun ih {_ _ _ _ _ _} h => by
 refine A3 (cl := CL n) (dr := A9_d) (A0 A9_k A9_c) (Ad (.t (.one false)) [] A9_t) (fun a v h => ?_) h
 cases n with
 | zero => cases h
 | succ n => rw [A9_lv, A9_b, Az] at h; exact Ax Ay (ih n rfl) rfl (enc := A9_r) (Ad (.t (.one false)) [] A9_t) h
theorem Dq_lv (n : Nat) : (lv (n + 1)).Dq = Dq_b (lv n) n := by kernel_rfl
theorem Dq_up (xa xb xc xf xg) {Q} (h : Tot (fun n _ _ => Dq_b (lv n) n xa xb xc xf xg) Q) : Tot (fun n _ _ => (lv n).Dq xa xb xc xf xg) Q := Tot.up (fun n => by rw [Dq_lv]) h
theorem Dq_ok (n : Nat) : OKo n Dq_o := fun ih {_ _ _ _ _ _} h => by
 refine A3 (cl := CL n) (dr := Dq_d) (A0 Dq_k Dq_c) (Ad (.t (.one false)) [] Dq_t) (fun a v h => ?_) h
 cases n with
 | zero => cases h
 | succ n => rw [Dq_lv, Dq_b, Az] at h; exact Ax Ay (ih n rfl) rfl (enc := Dq_r) (Ad (.t (.one false)) [] Dq_t) h
theorem Df_lv (n : Nat) : (lv (n + 1)).Df = Df_b (lv n) n := by kernel_rfl
theorem Df_up (xa xb) {Q} (h : Tot (fun n _ _ => Df_b (lv n) n xa xb) Q) : Tot (fun n _ _ => (lv n).Df xa xb) Q := Tot.up (fun n => by rw [Df_lv]) h
theorem Df_ok (n : Nat) : OKo n Df_o := fun ih {_ _ _ _ _ _} h => by
 refine A3 (cl := CL n) (dr := Df_d) (A0 Df_k Df_c) (Ad (.t (.one false)) [] Df_t) (fun a v h => ?_) h
 cases n with
 | zero => cases h
 | succ n => rw [Df_lv, Df_b, Az] at h; exact Ax Ay (ih n rfl) rfl (enc := Df_r) (Ad (.t (.one false)) [] Df_t) h
theorem C3_lv (n : Nat) : (lv (n + 1)).C3 = C3_b (lv n) n := by kernel_rfl
theorem C3_up (x0) {Q} (h : Tot (fun n _ _ => C3_b (lv n) n x0) Q) : Tot (fun n _ _ => (lv n).C3 x0) Q := Tot.up (fun n => by rw [C3_lv]) h
theorem C3_ok (n : Nat) : OKo n C3_o := fun ih {_ _ _ _ _ _} h => by
 refine A3 (cl := CL n) (dr := C3_d) (A0 C3_k C3_c) (Ad (.t (.one false)) [] C3_t) (fun a v h => ?_) h
 cases n with
 | zero => cases h
 | succ n => rw [C3_lv, C3_b, Az] at h; exact Ax Ay (ih n rfl) rfl (enc := C3_r) (Ad (.t (.one false)) [] C3_t) h
theorem B1_lv (n : Nat) : (lv (n + 1)).B1 = B1_b (lv n) n := by kernel_rfl
theorem B1_up (x0) {Q} (h : Tot (fun n _ _ => B1_b (lv n) n x0) Q) : Tot (fun n _ _ => (lv n).B1 x0) Q := Tot.up (fun n => by rw [B1_lv]) h
theorem B1_ok (n : Nat) : OKo n B1_o := fun ih {_ _ _ _ _ _} h => by
 refine A3 (cl := CL n) (dr := B1_d) (A0 B1_k B1_c) (Ad (.t (.one false)) [] B1_t) (fun a v h => ?_) h
 cases n with
 | zero => cases h
 | succ n => rw [B1_lv, B1_b, Az] at h; exact Ax Ay (ih n rfl) rfl (enc := B1_r) (Ad (.t (.one false)) [] B1_t) h
theorem Bv_lv (n : Nat) : (lv (n + 1)).Bv = Bv_b (lv n) n := by kernel_rfl
theorem Bv_up (x0) {Q} (h : Tot (fun n _ _ => Bv_b (lv n) n x0) Q) : Tot (fun n _ _ => (lv n).Bv x0) Q := Tot.up (fun n => by rw [Bv_lv]) h
theorem Bv_ok (n : Nat) : OKo n Bv_o := fun ih {_ _ _ _ _ _} h => by
 refine A3 (cl := CL n) (dr := Bv_d) (A0 Bv_k Bv_c) (Ad (.tup [.one true, .one false, .one false]) [] Bv_t) (fun a v h => ?_) h
 cases n with
 | zero => cases h
 | succ n => rw [Bv_lv, Bv_b, Az] at h; exact Ax Ay (ih n rfl) rfl (enc := Bv_r) (Ad (.tup [.one true, .one false, .one false]) [] Bv_t) h
theorem Db_lv (n : Nat) : (lv (n + 1)).Db = Db_b (lv n) n := by kernel_rfl
theorem Db_up (x0) {Q} (h : Tot (fun n _ _ => Db_b (lv n) n x0) Q) : Tot (fun n _ _ => (lv n).Db x0) Q := Tot.up (fun n => by rw [Db_lv]) h
theorem Db_ok (n : Nat) : OKo n Db_o := fun ih {_ _ _ _ _ _} h => by
 refine A3 (cl := CL n) (dr := Db_d) (A0 Db_k Db_c) (Ad (.t (.one false)) [] Db_t) (fun a v h => ?_) h
 cases n with
 | zero => cases h
 | succ n => rw [Db_lv, Db_b, Az] at h; exact Ax Ay (ih n rfl) rfl (enc := Db_r) (Ad (.t (.one false)) [] Db_t) h
theorem An_lv (n : Nat) : (lv (n + 1)).An = An_b (lv n) n := by kernel_rfl
theorem An_up (x0 x1) {Q} (h : Tot (fun n _ _ => An_b (lv n) n x0 x1) Q) : Tot (fun n _ _ => (lv n).An x0 x1) Q := Tot.up (fun n => by rw [An_lv]) h
theorem An_ok (n : Nat) : OKo n An_o := fun ih {_ _ _ _ _ _} h => by
 refine A3 (cl := CL n) (dr := An_d) (A0 An_k An_c) (Ad (.tup [.one false, .one false, .one false]) [] An_t) (fun a v h => ?_) h
 cases n with
 | zero => cases h
 | succ n => rw [An_lv, An_b, Az] at h; exact Ax Ay (ih n rfl) rfl (enc := An_r) (Ad (.tup [.one false, .one false, .one false]) [] An_t) h
theorem B0_lv (n : Nat) : (lv (n + 1)).B0 = B0_b (lv n) n := by kernel_rfl
theorem B0_up (x0 x1) {Q} (h : Tot (fun n _ _ => B0_b (lv n) n x0 x1) Q) : Tot (fun n _ _ => (lv n).B0 x0 x1) Q := Tot.up (fun n => by rw [B0_lv]) h
theorem B0_ok (n : Nat) : OKo n B0_o := fun ih {_ _ _ _ _ _} h => by
 refine A3 (cl := CL n) (dr := B0_d) (A0 B0_k B0_c) (Ad (.t (.one false)) [] B0_t) (fun a v h => ?_) h
 cases n with
 | zero => cases h
 | succ n => rw [B0_lv, B0_b, Az] at h; exact Ax Ay (ih n rfl) rfl (enc := B0_r) (Ad (.t (.one false)) [] B0_t) h
theorem Do_lv (n : Nat) : (lv (n + 1)).Do = Do_b (lv n) n := by kernel_rfl
theorem Do_up {Q : (Int × Int × Int × Int × Int × Int × Int × Int × Int × Int × Int × Int) → Prop} (h : Tot (fun n _ _ => Do_b (lv n) n) Q) : Tot (fun n _ _ => (lv n).Do) Q := Tot.up (fun n => by rw [Do_lv]) h
theorem Do_ok (n : Nat) : OKo n Do_o := fun ih {_ _ _ _ _ _} h => by
 refine A3 (cl := CL n) (dr := Do_d) (A0 Do_k Do_c) (Ad (.t (.agg [false, false, false, false, false, false, false, false, false, false, false, false])) [] Do_t) (fun a v h => ?_) h
 cases n with
 | zero => cases h
 | succ n => rw [Do_lv, Do_b, Az] at h; exact Ax Ay (ih n rfl) rfl (enc := Do_r) (Ad (.t (.agg [false, false, false, false, false, false, false, false, false, false, false, false])) [] Do_t) h
theorem Bp_lv (n : Nat) : (lv (n + 1)).Bp = Bp_b (lv n) n := by kernel_rfl
theorem Bp_up (x0) {Q} (h : Tot (fun n _ _ => Bp_b (lv n) n x0) Q) : Tot (fun n _ _ => (lv n).Bp x0) Q := Tot.up (fun n => by rw [Bp_lv]) h
theorem Bp_ok (n : Nat) : OKo n Bp_o := fun ih {_ _ _ _ _ _} h => by
 refine A3 (cl := CL n) (dr := Bp_d) (A0 Bp_k Bp_c) (Ad (.t (.one true)) [] Bp_t) (fun a v h => ?_) h
 cases n with
 | zero => cases h
 | succ n => rw [Bp_lv, Bp_b, Az] at h; exact Ax Ay (ih n rfl) rfl (enc := Bp_r) (Ad (.t (.one true)) [] Bp_t) h
theorem B5_lv (n : Nat) : (lv (n + 1)).B5 = B5_b (lv n) n := by kernel_rfl
theorem B5_up (x0) {Q} (h : Tot (fun n _ _ => B5_b (lv n) n x0) Q) : Tot (fun n _ _ => (lv n).B5 x0) Q := Tot.up (fun n => by rw [B5_lv]) h
theorem B5_ok (n : Nat) : OKo n B5_o := fun ih {_ _ _ _ _ _} h => by
 refine A3 (cl := CL n) (dr := B5_d) (A0 B5_k B5_c) (Ad (.t (.one false)) [] B5_t) (fun a v h => ?_) h
 cases n with
 | zero => cases h
 | succ n => rw [B5_lv, B5_b, Az] at h; exact Ax Ay (ih n rfl) rfl (enc := B5_r) (Ad (.t (.one false)) [] B5_t) h
theorem Bi_lv (n : Nat) : (lv (n + 1)).Bi = Bi_b (lv n) n := by kernel_rfl
theorem Bi_up (x0) {Q} (h : Tot (fun n _ _ => Bi_b (lv n) n x0) Q) : Tot (fun n _ _ => (lv n).Bi x0) Q := Tot.up (fun n => by rw [Bi_lv]) h
theorem Bi_ok (n : Nat) : OKo n Bi_o := fun ih {_ _ _ _ _ _} h => by
 refine A3 (cl := CL n) (dr := Bi_d) (A0 Bi_k Bi_c) (Ad (.t (.one false)) [] Bi_t) (fun a v h => ?_) h
 cases n with
 | zero => cases h
 | succ n => rw [Bi_lv, Bi_b, Az] at h; exact Ax Ay (ih n rfl) rfl (enc := Bi_r) (Ad (.t (.one false)) [] Bi_t) h
theorem Dp_lv (n : Nat) : (lv (n + 1)).Dp = Dp_b (lv n) n := by kernel_rfl
theorem Dp_up (x0 x1) {Q} (h : Tot (fun n _ _ => Dp_b (lv n) n x0 x1) Q) : Tot (fun n _ _ => (lv n).Dp x0 x1) Q := Tot.up (fun n => by rw [Dp_lv]) h
theorem Dp_ok (n : Nat) : OKo n Dp_o := fun ih {_ _ _ _ _ _} h => by
 refine A3 (cl := CL n) (dr := Dp_d) (A0 Dp_k Dp_c) (Ad (.tup [.one false, .one false]) [] Dp_t) (fun a v h => ?_) h
 cases n with
 | zero => cases h
 | succ n => rw [Dp_lv, Dp_b, Az] at h; exact Ax Ay (ih n rfl) rfl (enc := Dp_r) (Ad (.tup [.one false, .one false]) [] Dp_t) h
theorem Dh_lv (n : Nat) : (lv (n + 1)).Dh = Dh_b (lv n) n := by kernel_rfl
theorem Dh_up (x0) {Q} (h : Tot (fun n _ _ => Dh_b (lv n) n x0) Q) : Tot (fun n _ _ => (lv n).Dh x0) Q := Tot.up (fun n => by rw [Dh_lv]) h
theorem Dh_ok (n : Nat) : OKo n Dh_o := fun ih {_ _ _ _ _ _} h => by
 refine A3 (cl := CL n) (dr := Dh_d) (A0 Dh_k Dh_c) (Ad (.t (.one false)) [] Dh_t) (fun a v h => ?_) h
 cases n with
 | zero => cases h
 | succ n => rw [Dh_lv, Dh_b, Az] at h; exact Ax Ay (ih n rfl) rfl (enc := Dh_r) (Ad (.t (.one false)) [] Dh_t) h
theorem Dg_lv (n : Nat) : (lv (n + 1)).Dg = Dg_b (lv n) n := by kernel_rfl
theorem Dg_up (x0) {Q} (h : Tot (fun n _ _ => Dg_b (lv n) n x0) Q) : Tot (fun n _ _ => (lv n).Dg x0) Q := Tot.up (fun n => by rw [Dg_lv]) h
theorem Dg_ok (n : Nat) : OKo n Dg_o := fun ih {_ _ _ _ _ _} h => by
 refine A3 (cl := CL n) (dr := Dg_d) (A0 Dg_k Dg_c) (Ad (.t (.one false)) [] Dg_t) (fun a v h => ?_) h
 cases n with
 | zero => cases h
 | succ n => rw [Dg_lv, Dg_b, Az] at h; exact Ax Ay (ih n rfl) rfl (enc := Dg_r) (Ad (.t (.one false)) [] Dg_t) h
theorem Co_lv (n : Nat) : (lv (n + 1)).Co = Co_b (lv n) n := by kernel_rfl
theorem Co_ok (n : Nat) : OKo n Co_o := fun ih {_ _ _ _ _ _} h => by
 refine A3 (cl := CL n) (dr := Co_d) (A0 Co_k Co_c) (Ad (.t (.one true)) [] Co_t) (fun a v h => ?_) h
 cases n with
 | zero => cases h
 | succ n => rw [Co_lv, Co_b, Az] at h; exact Ax Ay (ih n rfl) rfl (enc := Co_r) (Ad (.t (.one true)) [] Co_t) h
theorem Cf_lv (n : Nat) : (lv (n + 1)).Cf = Cf_b (lv n) n := by kernel_rfl
theorem Cf_up (x0) {Q} (h : Tot (fun n _ _ => Cf_b (lv n) n x0) Q) : Tot (fun n _ _ => (lv n).Cf x0) Q := Tot.up (fun n => by rw [Cf_lv]) h
theorem Cf_ok (n : Nat) : OKo n Cf_o := fun ih {_ _ _ _ _ _} h => by
 refine A3 (cl := CL n) (dr := Cf_d) (A0 Cf_k Cf_c) (Ad (.t (.one false)) [] Cf_t) (fun a v h => ?_) h
 cases n with
 | zero => cases h
 | succ n => rw [Cf_lv, Cf_b, Az] at h; exact Ax Ay (ih n rfl) rfl (enc := Cf_r) (Ad (.t (.one false)) [] Cf_t) h
theorem Da_lv (n : Nat) : (lv (n + 1)).Da = Da_b (lv n) n := by kernel_rfl
theorem Da_up (x0) {Q} (h : Tot (fun n _ _ => Da_b (lv n) n x0) Q) : Tot (fun n _ _ => (lv n).Da x0) Q := Tot.up (fun n => by rw [Da_lv]) h
theorem Da_ok (n : Nat) : OKo n Da_o := fun ih {_ _ _ _ _ _} h => by
 refine A3 (cl := CL n) (dr := Da_d) (A0 Da_k Da_c) (Ad (.t (.one false)) [] Da_t) (fun a v h => ?_) h
 cases n with
 | zero => cases h
 | succ n => rw [Da_lv, Da_b, Az] at h; exact Ax Ay (ih n rfl) rfl (enc := Da_r) (Ad (.t (.one false)) [] Da_t) h
theorem Dj_lv (n : Nat) : (lv (n + 1)).Dj = Dj_b (lv n) n := by kernel_rfl
theorem Dj_up (xa xb xc) {Q} (h : Tot (fun n _ _ => Dj_b (lv n) n xa xb xc) Q) : Tot (fun n _ _ => (lv n).Dj xa xb xc) Q := Tot.up (fun n => by rw [Dj_lv]) h
theorem Dj_ok (n : Nat) : OKo n Dj_o := fun ih {_ _ _ _ _ _} h => by
 refine A3 (cl := CL n) (dr := Dj_d) (A0 Dj_k Dj_c) (Ad (.t (.one false)) [] Dj_t) (fun a v h => ?_) h
 cases n with
 | zero => cases h
 | succ n => rw [Dj_lv, Dj_b, Az] at h; exact Ax Ay (ih n rfl) rfl (enc := Dj_r) (Ad (.t (.one false)) [] Dj_t) h
theorem Du_lv (n : Nat) : (lv (n + 1)).Du = Du_b (lv n) n := by kernel_rfl
theorem Du_up (xa xb xc) {Q} (h : Tot (fun n _ _ => Du_b (lv n) n xa xb xc) Q) : Tot (fun n _ _ => (lv n).Du xa xb xc) Q := Tot.up (fun n => by rw [Du_lv]) h
theorem Du_ok (n : Nat) : OKo n Du_o := fun ih {_ _ _ _ _ _} h => by
 refine A3 (cl := CL n) (dr := Du_d) (A0 Du_k Du_c) (Ad (.t (.one false)) [] Du_t) (fun a v h => ?_) h
 cases n with
 | zero => cases h
 | succ n => rw [Du_lv, Du_b, Az] at h; exact Ax Ay (ih n rfl) rfl (enc := Du_r) (Ad (.t (.one false)) [] Du_t) h
theorem Bg_lv (n : Nat) : (lv (n + 1)).Bg = Bg_b (lv n) n := by kernel_rfl
theorem Bg_up (xa xb xc x1) {Q} (h : Tot (fun n _ _ => Bg_b (lv n) n xa xb xc x1) Q) : Tot (fun n _ _ => (lv n).Bg xa xb xc x1) Q := Tot.up (fun n => by rw [Bg_lv]) h
theorem Bg_ok (n : Nat) : OKo n Bg_o := fun ih {_ _ _ _ _ _} h => by
 refine A3 (cl := CL n) (dr := Bg_d) (A0 Bg_k Bg_c) (Ad (.t (.one false)) [] Bg_t) (fun a v h => ?_) h
 cases n with
 | zero => cases h
 | succ n => rw [Bg_lv, Bg_b, Az] at h; exact Ax Ay (ih n rfl) rfl (enc := Bg_r) (Ad (.t (.one false)) [] Bg_t) h
theorem Bm_lv (n : Nat) : (lv (n + 1)).Bm = Bm_b (lv n) n := by kernel_rfl
theorem Bm_up (xa xb xc xf xg xi x1) {Q} (h : Tot (fun n _ _ => Bm_b (lv n) n xa xb xc xf xg xi x1) Q) : Tot (fun n _ _ => (lv n).Bm xa xb xc xf xg xi x1) Q := Tot.up (fun n => by rw [Bm_lv]) h
theorem Bm_ok (n : Nat) : OKo n Bm_o := fun ih {_ _ _ _ _ _} h => by
 refine A3 (cl := CL n) (dr := Bm_d) (A0 Bm_k Bm_c) (Ad (.t (.one false)) [] Bm_t) (fun a v h => ?_) h
 cases n with
 | zero => cases h
 | succ n => rw [Bm_lv, Bm_b, Az] at h; exact Ax Ay (ih n rfl) rfl (enc := Bm_r) (Ad (.t (.one false)) [] Bm_t) h
theorem Bb_lv (n : Nat) : (lv (n + 1)).Bb = Bb_b (lv n) n := by kernel_rfl
theorem Bb_up (xa xb xc x1) {Q} (h : Tot (fun n _ _ => Bb_b (lv n) n xa xb xc x1) Q) : Tot (fun n _ _ => (lv n).Bb xa xb xc x1) Q := Tot.up (fun n => by rw [Bb_lv]) h
theorem Bb_ok (n : Nat) : OKo n Bb_o := fun ih {_ _ _ _ _ _} h => by
 refine A3 (cl := CL n) (dr := Bb_d) (A0 Bb_k Bb_c) (Ad (.t (.one false)) [] Bb_t) (fun a v h => ?_) h
 cases n with
 | zero => cases h
 | succ n => rw [Bb_lv, Bb_b, Az] at h; exact Ax Ay (ih n rfl) rfl (enc := Bb_r) (Ad (.t (.one false)) [] Bb_t) h
theorem Aj_lv (n : Nat) : (lv (n + 1)).Aj = Aj_b (lv n) n := by kernel_rfl
theorem Aj_up (xa xb xc xf xg xi x1) {Q} (h : Tot (fun n _ _ => Aj_b (lv n) n xa xb xc xf xg xi x1) Q) : Tot (fun n _ _ => (lv n).Aj xa xb xc xf xg xi x1) Q := Tot.up (fun n => by rw [Aj_lv]) h
theorem Aj_ok (n : Nat) : OKo n Aj_o := fun ih {_ _ _ _ _ _} h => by
 refine A3 (cl := CL n) (dr := Aj_d) (A0 Aj_k Aj_c) (Ad (.t (.one false)) [] Aj_t) (fun a v h => ?_) h
 cases n with
 | zero => cases h
 | succ n => rw [Aj_lv, Aj_b, Az] at h; exact Ax Ay (ih n rfl) rfl (enc := Aj_r) (Ad (.t (.one false)) [] Aj_t) h
theorem Dk_lv (n : Nat) : (lv (n + 1)).Dk = Dk_b (lv n) n := by kernel_rfl
theorem Dk_up (xa xb) {Q} (h : Tot (fun n _ _ => Dk_b (lv n) n xa xb) Q) : Tot (fun n _ _ => (lv n).Dk xa xb) Q := Tot.up (fun n => by rw [Dk_lv]) h
theorem Dk_ok (n : Nat) : OKo n Dk_o := fun ih {_ _ _ _ _ _} h => by
 refine A3 (cl := CL n) (dr := Dk_d) (A0 Dk_k Dk_c) (Ad (.t (.one false)) [] Dk_t) (fun a v h => ?_) h
 cases n with
 | zero => cases h
 | succ n => rw [Dk_lv, Dk_b, Az] at h; exact Ax Ay (ih n rfl) rfl (enc := Dk_r) (Ad (.t (.one false)) [] Dk_t) h
theorem Bf_lv (n : Nat) : (lv (n + 1)).Bf = Bf_b (lv n) n := by kernel_rfl
theorem Bf_up (x0) {Q} (h : Tot (fun n _ _ => Bf_b (lv n) n x0) Q) : Tot (fun n _ _ => (lv n).Bf x0) Q := Tot.up (fun n => by rw [Bf_lv]) h
theorem Bf_ok (n : Nat) : OKo n Bf_o := fun ih {_ _ _ _ _ _} h => by
 refine A3 (cl := CL n) (dr := Bf_d) (A0 Bf_k Bf_c) (Ad (.t (.one false)) [] Bf_t) (fun a v h => ?_) h
 cases n with
 | zero => cases h
 | succ n => rw [Bf_lv, Bf_b, Az] at h; exact Ax Ay (ih n rfl) rfl (enc := Bf_r) (Ad (.t (.one false)) [] Bf_t) h
theorem Bx_lv (n : Nat) : (lv (n + 1)).Bx = Bx_b (lv n) n := by kernel_rfl
theorem Bx_up (x0) {Q} (h : Tot (fun n _ _ => Bx_b (lv n) n x0) Q) : Tot (fun n _ _ => (lv n).Bx x0) Q := Tot.up (fun n => by rw [Bx_lv]) h
theorem Bx_ok (n : Nat) : OKo n Bx_o := fun ih {_ _ _ _ _ _} h => by
 refine A3 (cl := CL n) (dr := Bx_d) (A0 Bx_k Bx_c) (Ad (.t (.one false)) [] Bx_t) (fun a v h => ?_) h
 cases n with
 | zero => cases h
 | succ n => rw [Bx_lv, Bx_b, Az] at h; exact Ax Ay (ih n rfl) rfl (enc := Bx_r) (Ad (.t (.one false)) [] Bx_t) h
theorem Ba_lv (n : Nat) : (lv (n + 1)).Ba = Ba_b (lv n) n := by kernel_rfl
theorem Ba_up (x0) {Q} (h : Tot (fun n _ _ => Ba_b (lv n) n x0) Q) : Tot (fun n _ _ => (lv n).Ba x0) Q := Tot.up (fun n => by rw [Ba_lv]) h
theorem Ba_ok (n : Nat) : OKo n Ba_o := fun ih {_ _ _ _ _ _} h => by
 refine A3 (cl := CL n) (dr := Ba_d) (A0 Ba_k Ba_c) (Ad (.tup [.one true, .one false, .one false]) [] Ba_t) (fun a v h => ?_) h
 cases n with
 | zero => cases h
 | succ n => rw [Ba_lv, Ba_b, Az] at h; exact Ax Ay (ih n rfl) rfl (enc := Ba_r) (Ad (.tup [.one true, .one false, .one false]) [] Ba_t) h
theorem Cu_lv (n : Nat) : (lv (n + 1)).Cu = Cu_b (lv n) n := by kernel_rfl
theorem Cu_up (x0) {Q} (h : Tot (fun n _ _ => Cu_b (lv n) n x0) Q) : Tot (fun n _ _ => (lv n).Cu x0) Q := Tot.up (fun n => by rw [Cu_lv]) h
theorem Cu_ok (n : Nat) : OKo n Cu_o := fun ih {_ _ _ _ _ _} h => by
 refine A3 (cl := CL n) (dr := Cu_d) (A0 Cu_k Cu_c) (Ad (.t (.one false)) [] Cu_t) (fun a v h => ?_) h
 cases n with
 | zero => cases h
 | succ n => rw [Cu_lv, Cu_b, Az] at h; exact Ax Ay (ih n rfl) rfl (enc := Cu_r) (Ad (.t (.one false)) [] Cu_t) h
theorem Bc_lv (n : Nat) : (lv (n + 1)).Bc = Bc_b (lv n) n := by kernel_rfl
theorem Bc_up (x0 x1) {Q} (h : Tot (fun n _ _ => Bc_b (lv n) n x0 x1) Q) : Tot (fun n _ _ => (lv n).Bc x0 x1) Q := Tot.up (fun n => by rw [Bc_lv]) h
theorem Bc_ok (n : Nat) : OKo n Bc_o := fun ih {_ _ _ _ _ _} h => by
 refine A3 (cl := CL n) (dr := Bc_d) (A0 Bc_k Bc_c) (Ad (.tup [.one false, .one false, .one false]) [] Bc_t) (fun a v h => ?_) h
 cases n with
 | zero => cases h
 | succ n => rw [Bc_lv, Bc_b, Az] at h; exact Ax Ay (ih n rfl) rfl (enc := Bc_r) (Ad (.tup [.one false, .one false, .one false]) [] Bc_t) h
theorem Cp_lv (n : Nat) : (lv (n + 1)).Cp = Cp_b (lv n) n := by kernel_rfl
theorem Cp_up (x0) {Q} (h : Tot (fun n _ _ => Cp_b (lv n) n x0) Q) : Tot (fun n _ _ => (lv n).Cp x0) Q := Tot.up (fun n => by rw [Cp_lv]) h
theorem Cp_ok (n : Nat) : OKo n Cp_o := fun ih {_ _ _ _ _ _} h => by
 refine A3 (cl := CL n) (dr := Cp_d) (A0 Cp_k Cp_c) (Ad (.t (.one true)) [] Cp_t) (fun a v h => ?_) h
 cases n with
 | zero => cases h
 | succ n => rw [Cp_lv, Cp_b, Az] at h; exact Ax Ay (ih n rfl) rfl (enc := Cp_r) (Ad (.t (.one true)) [] Cp_t) h
theorem Ag_lv (n : Nat) : (lv (n + 1)).Ag = Ag_b (lv n) n := by kernel_rfl
theorem Ag_up (x0 x1) {Q} (h : Tot (fun n _ _ => Ag_b (lv n) n x0 x1) Q) : Tot (fun n _ _ => (lv n).Ag x0 x1) Q := Tot.up (fun n => by rw [Ag_lv]) h
theorem Ag_ok (n : Nat) : OKo n Ag_o := fun ih {_ _ _ _ _ _} h => by
 refine A3 (cl := CL n) (dr := Ag_d) (A0 Ag_k Ag_c) (Ad (.t (.one false)) [] Ag_t) (fun a v h => ?_) h
 cases n with
 | zero => cases h
 | succ n => rw [Ag_lv, Ag_b, Az] at h; exact Ax Ay (ih n rfl) rfl (enc := Ag_r) (Ad (.t (.one false)) [] Ag_t) h
theorem Ap_lv (n : Nat) : (lv (n + 1)).Ap = Ap_b (lv n) n := by kernel_rfl
theorem Ap_up (x0 x1 x2) {Q} (h : Tot (fun n _ _ => Ap_b (lv n) n x0 x1 x2) Q) : Tot (fun n _ _ => (lv n).Ap x0 x1 x2) Q := Tot.up (fun n => by rw [Ap_lv]) h
theorem Ap_ok (n : Nat) : OKo n Ap_o := fun ih {_ _ _ _ _ _} h => by
 refine A3 (cl := CL n) (dr := Ap_d) (A0 Ap_k Ap_c) (Ad (.t (.one false)) [] Ap_t) (fun a v h => ?_) h
 cases n with
 | zero => cases h
 | succ n => rw [Ap_lv, Ap_b, Az] at h; exact Ax Ay (ih n rfl) rfl (enc := Ap_r) (Ad (.t (.one false)) [] Ap_t) h
theorem Bj_lv (n : Nat) : (lv (n + 1)).Bj = Bj_b (lv n) n := by kernel_rfl
theorem Bj_up (x0) {Q} (h : Tot (fun n _ _ => Bj_b (lv n) n x0) Q) : Tot (fun n _ _ => (lv n).Bj x0) Q := Tot.up (fun n => by rw [Bj_lv]) h
theorem Bj_ok (n : Nat) : OKo n Bj_o := fun ih {_ _ _ _ _ _} h => by
 refine A3 (cl := CL n) (dr := Bj_d) (A0 Bj_k Bj_c) (Ad (.t (.one false)) [] Bj_t) (fun a v h => ?_) h
 cases n with
 | zero => cases h
 | succ n => rw [Bj_lv, Bj_b, Az] at h; exact Ax Ay (ih n rfl) rfl (enc := Bj_r) (Ad (.t (.one false)) [] Bj_t) h
theorem C0_lv (n : Nat) : (lv (n + 1)).C0 = C0_b (lv n) n := by kernel_rfl
theorem C0_up (x0) {Q} (h : Tot (fun n _ _ => C0_b (lv n) n x0) Q) : Tot (fun n _ _ => (lv n).C0 x0) Q := Tot.up (fun n => by rw [C0_lv]) h
theorem C0_ok (n : Nat) : OKo n C0_o := fun ih {_ _ _ _ _ _} h => by
 refine A3 (cl := CL n) (dr := C0_d) (A0 C0_k C0_c) (Ad (.t (.one false)) [] C0_t) (fun a v h => ?_) h
 cases n with
 | zero => cases h
 | succ n => rw [C0_lv, C0_b, Az] at h; exact Ax Ay (ih n rfl) rfl (enc := C0_r) (Ad (.t (.one false)) [] C0_t) h
theorem C1_lv (n : Nat) : (lv (n + 1)).C1 = C1_b (lv n) n := by kernel_rfl
theorem C1_up (x0) {Q} (h : Tot (fun n _ _ => C1_b (lv n) n x0) Q) : Tot (fun n _ _ => (lv n).C1 x0) Q := Tot.up (fun n => by rw [C1_lv]) h
theorem C1_ok (n : Nat) : OKo n C1_o := fun ih {_ _ _ _ _ _} h => by
 refine A3 (cl := CL n) (dr := C1_d) (A0 C1_k C1_c) (Ad (.t (.one false)) [] C1_t) (fun a v h => ?_) h
 cases n with
 | zero => cases h
 | succ n => rw [C1_lv, C1_b, Az] at h; exact Ax Ay (ih n rfl) rfl (enc := C1_r) (Ad (.t (.one false)) [] C1_t) h
theorem Bt_lv (n : Nat) : (lv (n + 1)).Bt = Bt_b (lv n) n := by kernel_rfl
theorem Bt_up (x0 x1 x2) {Q} (h : Tot (fun n _ _ => Bt_b (lv n) n x0 x1 x2) Q) : Tot (fun n _ _ => (lv n).Bt x0 x1 x2) Q := Tot.up (fun n => by rw [Bt_lv]) h
theorem Bt_ok (n : Nat) : OKo n Bt_o := fun ih {_ _ _ _ _ _} h => by
 refine A3 (cl := CL n) (dr := Bt_d) (A0 Bt_k Bt_c) (Ad (.t (.one false)) [] Bt_t) (fun a v h => ?_) h
 cases n with
 | zero => cases h
 | succ n => rw [Bt_lv, Bt_b, Az] at h; exact Ax Ay (ih n rfl) rfl (enc := Bt_r) (Ad (.t (.one false)) [] Bt_t) h
theorem Cz_lv (n : Nat) : (lv (n + 1)).Cz = Cz_b (lv n) n := by kernel_rfl
theorem Cz_up (x0) {Q} (h : Tot (fun n _ _ => Cz_b (lv n) n x0) Q) : Tot (fun n _ _ => (lv n).Cz x0) Q := Tot.up (fun n => by rw [Cz_lv]) h
theorem Cz_ok (n : Nat) : OKo n Cz_o := fun ih {_ _ _ _ _ _} h => by
 refine A3 (cl := CL n) (dr := Cz_d) (A0 Cz_k Cz_c) (Ad (.t (.one false)) [] Cz_t) (fun a v h => ?_) h
 cases n with
 | zero => cases h
 | succ n => rw [Cz_lv, Cz_b, Az] at h; exact Ax Ay (ih n rfl) rfl (enc := Cz_r) (Ad (.t (.one false)) [] Cz_t) h
theorem Di_lv (n : Nat) : (lv (n + 1)).Di = Di_b (lv n) n := by kernel_rfl
theorem Di_up (x0) {Q} (h : Tot (fun n _ _ => Di_b (lv n) n x0) Q) : Tot (fun n _ _ => (lv n).Di x0) Q := Tot.up (fun n => by rw [Di_lv]) h
theorem Di_ok (n : Nat) : OKo n Di_o := fun ih {_ _ _ _ _ _} h => by
 refine A3 (cl := CL n) (dr := Di_d) (A0 Di_k Di_c) (Ad (.t (.one false)) [] Di_t) (fun a v h => ?_) h
 cases n with
 | zero => cases h
 | succ n => rw [Di_lv, Di_b, Az] at h; exact Ax Ay (ih n rfl) rfl (enc := Di_r) (Ad (.t (.one false)) [] Di_t) h
theorem B8_lv (n : Nat) : (lv (n + 1)).B8 = B8_b (lv n) n := by kernel_rfl
theorem B8_up (x0 x1 x2) {Q} (h : Tot (fun n _ _ => B8_b (lv n) n x0 x1 x2) Q) : Tot (fun n _ _ => (lv n).B8 x0 x1 x2) Q := Tot.up (fun n => by rw [B8_lv]) h
theorem B8_ok (n : Nat) : OKo n B8_o := fun ih {_ _ _ _ _ _} h => by
 refine A3 (cl := CL n) (dr := B8_d) (A0 B8_k B8_c) (Ad (.t (.one false)) [] B8_t) (fun a v h => ?_) h
 cases n with
 | zero => cases h
 | succ n => rw [B8_lv, B8_b, Az] at h; exact Ax Ay (ih n rfl) rfl (enc := B8_r) (Ad (.t (.one false)) [] B8_t) h
theorem A5_lv (n : Nat) : (lv (n + 1)).A5 = A5_b (lv n) n := by kernel_rfl
theorem A5_up (x0) {Q} (h : Tot (fun n _ _ => A5_b (lv n) n x0) Q) : Tot (fun n _ _ => (lv n).A5 x0) Q := Tot.up (fun n => by rw [A5_lv]) h
theorem A5_ok (n : Nat) : OKo n A5_o := fun ih {_ _ _ _ _ _} h => by
 refine A3 (cl := CL n) (dr := A5_d) (A0 A5_k A5_c) (Ad (.t (.one false)) [] A5_t) (fun a v h => ?_) h
 cases n with
 | zero => cases h
 | succ n => rw [A5_lv, A5_b, Az] at h; exact Ax Ay (ih n rfl) rfl (enc := A5_r) (Ad (.t (.one false)) [] A5_t) h
theorem A6_lv (n : Nat) : (lv (n + 1)).A6 = A6_b (lv n) n := by kernel_rfl
theorem A6_up (xa xb xc xf xg) {Q} (h : Tot (fun n _ _ => A6_b (lv n) n xa xb xc xf xg) Q) : Tot (fun n _ _ => (lv n).A6 xa xb xc xf xg) Q := Tot.up (fun n => by rw [A6_lv]) h
theorem A6_ok (n : Nat) : OKo n A6_o := fun ih {_ _ _ _ _ _} h => by
 refine A3 (cl := CL n) (dr := A6_d) (A0 A6_k A6_c) (Ad (.t (.one false)) [] A6_t) (fun a v h => ?_) h
 cases n with
 | zero => cases h
 | succ n => rw [A6_lv, A6_b, Az] at h; exact Ax Ay (ih n rfl) rfl (enc := A6_r) (Ad (.t (.one false)) [] A6_t) h
theorem De_lv (n : Nat) : (lv (n + 1)).De = De_b (lv n) n := by kernel_rfl
theorem De_up (xa xb) {Q} (h : Tot (fun n _ _ => De_b (lv n) n xa xb) Q) : Tot (fun n _ _ => (lv n).De xa xb) Q := Tot.up (fun n => by rw [De_lv]) h
theorem De_ok (n : Nat) : OKo n De_o := fun ih {_ _ _ _ _ _} h => by
 refine A3 (cl := CL n) (dr := De_d) (A0 De_k De_c) (Ad (.t (.one false)) [] De_t) (fun a v h => ?_) h
 cases n with
 | zero => cases h
 | succ n => rw [De_lv, De_b, Az] at h; exact Ax Ay (ih n rfl) rfl (enc := De_r) (Ad (.t (.one false)) [] De_t) h
theorem Bo_lv (n : Nat) : (lv (n + 1)).Bo = Bo_b (lv n) n := by kernel_rfl
theorem Bo_up (x0) {Q} (h : Tot (fun n _ _ => Bo_b (lv n) n x0) Q) : Tot (fun n _ _ => (lv n).Bo x0) Q := Tot.up (fun n => by rw [Bo_lv]) h
theorem Bo_ok (n : Nat) : OKo n Bo_o := fun ih {_ _ _ _ _ _} h => by
 refine A3 (cl := CL n) (dr := Bo_d) (A0 Bo_k Bo_c) (Ad (.t (.agg [false, true])) [] Bo_t) (fun a v h => ?_) h
 cases n with
 | zero => cases h
 | succ n => rw [Bo_lv, Bo_b, Az] at h; exact Ax Ay (ih n rfl) rfl (enc := Bo_r) (Ad (.t (.agg [false, true])) [] Bo_t) h
theorem Cd_lv (n : Nat) : (lv (n + 1)).Cd = Cd_b (lv n) n := by kernel_rfl
theorem Cd_up (xa xb xc xf xg xi xj xk xd xe xh) {Q} (h : Tot (fun n _ _ => Cd_b (lv n) n xa xb xc xf xg xi xj xk xd xe xh) Q) : Tot (fun n _ _ => (lv n).Cd xa xb xc xf xg xi xj xk xd xe xh) Q := Tot.up (fun n => by rw [Cd_lv]) h
theorem Cd_ok (n : Nat) : OKo n Cd_o := fun ih {_ _ _ _ _ _} h => by
 refine A3 (cl := CL n) (dr := Cd_d) (A0 Cd_k Cd_c) (Ad (.t (.one false)) [] Cd_t) (fun a v h => ?_) h
 cases n with
 | zero => cases h
 | succ n => rw [Cd_lv, Cd_b, Az] at h; exact Ax Ay (ih n rfl) rfl (enc := Cd_r) (Ad (.t (.one false)) [] Cd_t) h
theorem Cc_lv (n : Nat) : (lv (n + 1)).Cc = Cc_b (lv n) n := by kernel_rfl
theorem Cc_up (xa xb xc xf xg xi xj xk) {Q} (h : Tot (fun n _ _ => Cc_b (lv n) n xa xb xc xf xg xi xj xk) Q) : Tot (fun n _ _ => (lv n).Cc xa xb xc xf xg xi xj xk) Q := Tot.up (fun n => by rw [Cc_lv]) h
theorem Cc_ok (n : Nat) : OKo n Cc_o := fun ih {_ _ _ _ _ _} h => by
 refine A3 (cl := CL n) (dr := Cc_d) (A0 Cc_k Cc_c) (Ad (.t (.one false)) [] Cc_t) (fun a v h => ?_) h
 cases n with
 | zero => cases h
 | succ n => rw [Cc_lv, Cc_b, Az] at h; exact Ax Ay (ih n rfl) rfl (enc := Cc_r) (Ad (.t (.one false)) [] Cc_t) h
theorem Bn_lv (n : Nat) : (lv (n + 1)).Bn = Bn_b (lv n) n := by kernel_rfl
theorem Bn_up (xa xb xd xe xh x2) {Q} (h : Tot (fun n _ _ => Bn_b (lv n) n xa xb xd xe xh x2) Q) : Tot (fun n _ _ => (lv n).Bn xa xb xd xe xh x2) Q := Tot.up (fun n => by rw [Bn_lv]) h
theorem Bn_ok (n : Nat) : OKo n Bn_o := fun ih {_ _ _ _ _ _} h => by
 refine A3 (cl := CL n) (dr := Bn_d) (A0 Bn_k Bn_c) (Ad (.t (.one true)) [] Bn_t) (fun a v h => ?_) h
 cases n with
 | zero => cases h
 | succ n => rw [Bn_lv, Bn_b, Az] at h; exact Ax Ay (ih n rfl) rfl (enc := Bn_r) (Ad (.t (.one true)) [] Bn_t) h
theorem A8_lv (n : Nat) : (lv (n + 1)).A8 = A8_b (lv n) n := by kernel_rfl
theorem A8_up (xa xb xc xf xg xi xj xk xd xe xh xl xm xn yc yd ye yf ym x3) {Q} (h : Tot (fun n _ _ => A8_b (lv n) n xa xb xc xf xg xi xj xk xd xe xh xl xm xn yc yd ye yf ym x3) Q) : Tot (fun n _ _ => (lv n).A8 xa xb xc xf xg xi xj xk xd xe xh xl xm xn yc yd ye yf ym x3) Q := Tot.up (fun n => by rw [A8_lv]) h
theorem A8_ok (n : Nat) : OKo n A8_o := fun ih {_ _ _ _ _ _} h => by
 refine A3 (cl := CL n) (dr := A8_d) (A0 A8_k A8_c) (Ad (.t (.one false)) [] A8_t) (fun a v h => ?_) h
 cases n with
 | zero => cases h
 | succ n => rw [A8_lv, A8_b, Az] at h; exact Ax Ay (ih n rfl) rfl (enc := A8_r) (Ad (.t (.one false)) [] A8_t) h
theorem Ab_lv (n : Nat) : (lv (n + 1)).Ab = Ab_b (lv n) n := by kernel_rfl
theorem Ab_up (xa xb xd xe xh x2) {Q} (h : Tot (fun n _ _ => Ab_b (lv n) n xa xb xd xe xh x2) Q) : Tot (fun n _ _ => (lv n).Ab xa xb xd xe xh x2) Q := Tot.up (fun n => by rw [Ab_lv]) h
theorem Ab_ok (n : Nat) : OKo n Ab_o := fun ih {_ _ _ _ _ _} h => by
 refine A3 (cl := CL n) (dr := Ab_d) (A0 Ab_k Ab_c) (Ad (.t (.one false)) [] Ab_t) (fun a v h => ?_) h
 cases n with
 | zero => cases h
 | succ n => rw [Ab_lv, Ab_b, Az] at h; exact Ax Ay (ih n rfl) rfl (enc := Ab_r) (Ad (.t (.one false)) [] Ab_t) h
theorem Cm_lv (n : Nat) : (lv (n + 1)).Cm = Cm_b (lv n) n := by kernel_rfl
theorem Cm_up (xa xb x1) {Q} (h : Tot (fun n _ _ => Cm_b (lv n) n xa xb x1) Q) : Tot (fun n _ _ => (lv n).Cm xa xb x1) Q := Tot.up (fun n => by rw [Cm_lv]) h
theorem Cm_ok (n : Nat) : OKo n Cm_o := fun ih {_ _ _ _ _ _} h => by
 refine A3 (cl := CL n) (dr := Cm_d) (A0 Cm_k Cm_c) (Ad (.t (.one false)) [] Cm_t) (fun a v h => ?_) h
 cases n with
 | zero => cases h
 | succ n => rw [Cm_lv, Cm_b, Az] at h; exact Ax Ay (ih n rfl) rfl (enc := Cm_r) (Ad (.t (.one false)) [] Cm_t) h
theorem Bz_lv (n : Nat) : (lv (n + 1)).Bz = Bz_b (lv n) n := by kernel_rfl
theorem Bz_up (x0 x1) {Q} (h : Tot (fun n _ _ => Bz_b (lv n) n x0 x1) Q) : Tot (fun n _ _ => (lv n).Bz x0 x1) Q := Tot.up (fun n => by rw [Bz_lv]) h
theorem Bz_ok (n : Nat) : OKo n Bz_o := fun ih {_ _ _ _ _ _} h => by
 refine A3 (cl := CL n) (dr := Bz_d) (A0 Bz_k Bz_c) (Ad (.t (.one false)) [] Bz_t) (fun a v h => ?_) h
 cases n with
 | zero => cases h
 | succ n => rw [Bz_lv, Bz_b, Az] at h; exact Ax Ay (ih n rfl) rfl (enc := Bz_r) (Ad (.t (.one false)) [] Bz_t) h
theorem Cn_lv (n : Nat) : (lv (n + 1)).Cn = Cn_b (lv n) n := by kernel_rfl
theorem Cn_up (xa xb x1) {Q} (h : Tot (fun n _ _ => Cn_b (lv n) n xa xb x1) Q) : Tot (fun n _ _ => (lv n).Cn xa xb x1) Q := Tot.up (fun n => by rw [Cn_lv]) h
theorem Cn_ok (n : Nat) : OKo n Cn_o := fun ih {_ _ _ _ _ _} h => by
 refine A3 (cl := CL n) (dr := Cn_d) (A0 Cn_k Cn_c) (Ad (.t (.one false)) [] Cn_t) (fun a v h => ?_) h
 cases n with
 | zero => cases h
 | succ n => rw [Cn_lv, Cn_b, Az] at h; exact Ax Ay (ih n rfl) rfl (enc := Cn_r) (Ad (.t (.one false)) [] Cn_t) h
theorem A7_lv (n : Nat) : (lv (n + 1)).A7 = A7_b (lv n) n := by kernel_rfl
theorem A7_up (xa xb xd xe xh xl xm xn x2) {Q} (h : Tot (fun n _ _ => A7_b (lv n) n xa xb xd xe xh xl xm xn x2) Q) : Tot (fun n _ _ => (lv n).A7 xa xb xd xe xh xl xm xn x2) Q := Tot.up (fun n => by rw [A7_lv]) h
theorem A7_ok (n : Nat) : OKo n A7_o := fun ih {_ _ _ _ _ _} h => by
 refine A3 (cl := CL n) (dr := A7_d) (A0 A7_k A7_c) (Ad (.t (.one false)) [] A7_t) (fun a v h => ?_) h
 cases n with
 | zero => cases h
 | succ n => rw [A7_lv, A7_b, Az] at h; exact Ax Ay (ih n rfl) rfl (enc := A7_r) (Ad (.t (.one false)) [] A7_t) h
theorem By_lv (n : Nat) : (lv (n + 1)).By = By_b (lv n) n := by kernel_rfl
theorem By_up (xa xb x1) {Q} (h : Tot (fun n _ _ => By_b (lv n) n xa xb x1) Q) : Tot (fun n _ _ => (lv n).By xa xb x1) Q := Tot.up (fun n => by rw [By_lv]) h
theorem By_ok (n : Nat) : OKo n By_o := fun ih {_ _ _ _ _ _} h => by
 refine A3 (cl := CL n) (dr := By_d) (A0 By_k By_c) (Ad (.t (.one false)) [] By_t) (fun a v h => ?_) h
 cases n with
 | zero => cases h
 | succ n => rw [By_lv, By_b, Az] at h; exact Ax Ay (ih n rfl) rfl (enc := By_r) (Ad (.t (.one false)) [] By_t) h
theorem Bu_lv (n : Nat) : (lv (n + 1)).Bu = Bu_b (lv n) n := by kernel_rfl
theorem Bu_up (x0 x1) {Q} (h : Tot (fun n _ _ => Bu_b (lv n) n x0 x1) Q) : Tot (fun n _ _ => (lv n).Bu x0 x1) Q := Tot.up (fun n => by rw [Bu_lv]) h
theorem Bu_ok (n : Nat) : OKo n Bu_o := fun ih {_ _ _ _ _ _} h => by
 refine A3 (cl := CL n) (dr := Bu_d) (A0 Bu_k Bu_c) (Ad (.t (.one false)) [] Bu_t) (fun a v h => ?_) h
 cases n with
 | zero => cases h
 | succ n => rw [Bu_lv, Bu_b, Az] at h; exact Ax Ay (ih n rfl) rfl (enc := Bu_r) (Ad (.t (.one false)) [] Bu_t) h
theorem Abv : ∀ n, ∀ {Ω : Type}, Gm (Ω := Ω) (call Try.prog Kp kp n) (orK (lv n)) := by
 intro n
 induction n with
 | zero =>
  intro Ω f l K r h
  have ih : ∀ m, 0 = m + 1 → ∀ {Ω : Type}, Gm (Ω := Ω) (call Try.prog Kp kp m) (orK (lv m)) := fun m e => by cases e
  rcases Av_ok _ ih h with h | h
  ·exact h
  rcases Dt_ok _ ih h with h | h
  ·exact h
  rcases Br_ok _ ih h with h | h
  ·exact h
  rcases C2_ok _ ih h with h | h
  ·exact h
  rcases Ah_ok _ ih h with h | h
  ·exact h
  rcases Cq_ok _ ih h with h | h
  ·exact h
  rcases Ar_ok _ ih h with h | h
  ·exact h
  rcases Bh_ok _ ih h with h | h
  ·exact h
  rcases B3_ok _ ih h with h | h
  ·exact h
  rcases Bd_ok _ ih h with h | h
  ·exact h
  rcases Bl_ok _ ih h with h | h
  ·exact h
  rcases B4_ok _ ih h with h | h
  ·exact h
  rcases Ce_ok _ ih h with h | h
  ·exact h
  rcases Ao_ok _ ih h with h | h
  ·exact h
  rcases Bs_ok _ ih h with h | h
  ·exact h
  rcases C8_ok _ ih h with h | h
  ·exact h
  rcases B9_ok _ ih h with h | h
  ·exact h
  rcases Cv_ok _ ih h with h | h
  ·exact h
  rcases Cw_ok _ ih h with h | h
  ·exact h
  rcases Cx_ok _ ih h with h | h
  ·exact h
  rcases Cg_ok _ ih h with h | h
  ·exact h
  rcases Ch_ok _ ih h with h | h
  ·exact h
  rcases Ci_ok _ ih h with h | h
  ·exact h
  rcases Dw_ok _ ih h with h | h
  ·exact h
  rcases C9_ok _ ih h with h | h
  ·exact h
  rcases Dn_ok _ ih h with h | h
  ·exact h
  rcases Ca_ok _ ih h with h | h
  ·exact h
  rcases Dm_ok _ ih h with h | h
  ·exact h
  rcases Cj_ok _ ih h with h | h
  ·exact h
  rcases Dv_ok _ ih h with h | h
  ·exact h
  rcases C5_ok _ ih h with h | h
  ·exact h
  rcases B7_ok _ ih h with h | h
  ·exact h
  rcases At_ok _ ih h with h | h
  ·exact h
  rcases Dd_ok _ ih h with h | h
  ·exact h
  rcases B6_ok _ ih h with h | h
  ·exact h
  rcases Dr_ok _ ih h with h | h
  ·exact h
  rcases Dc_ok _ ih h with h | h
  ·exact h
  rcases Dl_ok _ ih h with h | h
  ·exact h
  rcases A9_ok _ ih h with h | h
  ·exact h
  rcases Dq_ok _ ih h with h | h
  ·exact h
  rcases Df_ok _ ih h with h | h
  ·exact h
  rcases C3_ok _ ih h with h | h
  ·exact h
  rcases B1_ok _ ih h with h | h
  ·exact h
  rcases Bv_ok _ ih h with h | h
  ·exact h
  rcases Db_ok _ ih h with h | h
  ·exact h
  rcases An_ok _ ih h with h | h
  ·exact h
  rcases B0_ok _ ih h with h | h
  ·exact h
  rcases Do_ok _ ih h with h | h
  ·exact h
  rcases Bp_ok _ ih h with h | h
  ·exact h
  rcases B5_ok _ ih h with h | h
  ·exact h
  rcases Bi_ok _ ih h with h | h
  ·exact h
  rcases Dp_ok _ ih h with h | h
  ·exact h
  rcases Dh_ok _ ih h with h | h
  ·exact h
  rcases Dg_ok _ ih h with h | h
  ·exact h
  rcases Co_ok _ ih h with h | h
  ·exact h
  rcases Cf_ok _ ih h with h | h
  ·exact h
  rcases Da_ok _ ih h with h | h
  ·exact h
  rcases Dj_ok _ ih h with h | h
  ·exact h
  rcases Du_ok _ ih h with h | h
  ·exact h
  rcases Bg_ok _ ih h with h | h
  ·exact h
  rcases Bm_ok _ ih h with h | h
  ·exact h
  rcases Bb_ok _ ih h with h | h
  ·exact h
  rcases Aj_ok _ ih h with h | h
  ·exact h
  rcases Dk_ok _ ih h with h | h
  ·exact h
  rcases Bf_ok _ ih h with h | h
  ·exact h
  rcases Bx_ok _ ih h with h | h
  ·exact h
  rcases Ba_ok _ ih h with h | h
  ·exact h
  rcases Cu_ok _ ih h with h | h
  ·exact h
  rcases Bc_ok _ ih h with h | h
  ·exact h
  rcases Cp_ok _ ih h with h | h
  ·exact h
  rcases Ag_ok _ ih h with h | h
  ·exact h
  rcases Ap_ok _ ih h with h | h
  ·exact h
  rcases Bj_ok _ ih h with h | h
  ·exact h
  rcases C0_ok _ ih h with h | h
  ·exact h
  rcases C1_ok _ ih h with h | h
  ·exact h
  rcases Bt_ok _ ih h with h | h
  ·exact h
  rcases Cz_ok _ ih h with h | h
  ·exact h
  rcases Di_ok _ ih h with h | h
  ·exact h
  rcases B8_ok _ ih h with h | h
  ·exact h
  rcases A5_ok _ ih h with h | h
  ·exact h
  rcases A6_ok _ ih h with h | h
  ·exact h
  rcases De_ok _ ih h with h | h
  ·exact h
  rcases Bo_ok _ ih h with h | h
  ·exact h
  rcases Cd_ok _ ih h with h | h
  ·exact h
  rcases Cc_ok _ ih h with h | h
  ·exact h
  rcases Bn_ok _ ih h with h | h
  ·exact h
  rcases A8_ok _ ih h with h | h
  ·exact h
  rcases Ab_ok _ ih h with h | h
  ·exact h
  rcases Cm_ok _ ih h with h | h
  ·exact h
  rcases Bz_ok _ ih h with h | h
  ·exact h
  rcases Cn_ok _ ih h with h | h
  ·exact h
  rcases A7_ok _ ih h with h | h
  ·exact h
  rcases By_ok _ ih h with h | h
  ·exact h
  rcases Bu_ok _ ih h with h | h
  ·exact h
  cases h
 | succ n ih0 =>
  intro Ω f l K r h
  have ih : ∀ m, n + 1 = m + 1 → ∀ {Ω : Type}, Gm (Ω := Ω) (call Try.prog Kp kp m) (orK (lv m)) := fun m e => by cases e; exact ih0
  rcases Av_ok _ ih h with h | h
  ·exact h
  rcases Dt_ok _ ih h with h | h
  ·exact h
  rcases Br_ok _ ih h with h | h
  ·exact h
  rcases C2_ok _ ih h with h | h
  ·exact h
  rcases Ah_ok _ ih h with h | h
  ·exact h
  rcases Cq_ok _ ih h with h | h
  ·exact h
  rcases Ar_ok _ ih h with h | h
  ·exact h
  rcases Bh_ok _ ih h with h | h
  ·exact h
  rcases B3_ok _ ih h with h | h
  ·exact h
  rcases Bd_ok _ ih h with h | h
  ·exact h
  rcases Bl_ok _ ih h with h | h
  ·exact h
  rcases B4_ok _ ih h with h | h
  ·exact h
  rcases Ce_ok _ ih h with h | h
  ·exact h
  rcases Ao_ok _ ih h with h | h
  ·exact h
  rcases Bs_ok _ ih h with h | h
  ·exact h
  rcases C8_ok _ ih h with h | h
  ·exact h
  rcases B9_ok _ ih h with h | h
  ·exact h
  rcases Cv_ok _ ih h with h | h
  ·exact h
  rcases Cw_ok _ ih h with h | h
  ·exact h
  rcases Cx_ok _ ih h with h | h
  ·exact h
  rcases Cg_ok _ ih h with h | h
  ·exact h
  rcases Ch_ok _ ih h with h | h
  ·exact h
  rcases Ci_ok _ ih h with h | h
  ·exact h
  rcases Dw_ok _ ih h with h | h
  ·exact h
  rcases C9_ok _ ih h with h | h
  ·exact h
  rcases Dn_ok _ ih h with h | h
  ·exact h
  rcases Ca_ok _ ih h with h | h
  ·exact h
  rcases Dm_ok _ ih h with h | h
  ·exact h
  rcases Cj_ok _ ih h with h | h
  ·exact h
  rcases Dv_ok _ ih h with h | h
  ·exact h
  rcases C5_ok _ ih h with h | h
  ·exact h
  rcases B7_ok _ ih h with h | h
  ·exact h
  rcases At_ok _ ih h with h | h
  ·exact h
  rcases Dd_ok _ ih h with h | h
  ·exact h
  rcases B6_ok _ ih h with h | h
  ·exact h
  rcases Dr_ok _ ih h with h | h
  ·exact h
  rcases Dc_ok _ ih h with h | h
  ·exact h
  rcases Dl_ok _ ih h with h | h
  ·exact h
  rcases A9_ok _ ih h with h | h
  ·exact h
  rcases Dq_ok _ ih h with h | h
  ·exact h
  rcases Df_ok _ ih h with h | h
  ·exact h
  rcases C3_ok _ ih h with h | h
  ·exact h
  rcases B1_ok _ ih h with h | h
  ·exact h
  rcases Bv_ok _ ih h with h | h
  ·exact h
  rcases Db_ok _ ih h with h | h
  ·exact h
  rcases An_ok _ ih h with h | h
  ·exact h
  rcases B0_ok _ ih h with h | h
  ·exact h
  rcases Do_ok _ ih h with h | h
  ·exact h
  rcases Bp_ok _ ih h with h | h
  ·exact h
  rcases B5_ok _ ih h with h | h
  ·exact h
  rcases Bi_ok _ ih h with h | h
  ·exact h
  rcases Dp_ok _ ih h with h | h
  ·exact h
  rcases Dh_ok _ ih h with h | h
  ·exact h
  rcases Dg_ok _ ih h with h | h
  ·exact h
  rcases Co_ok _ ih h with h | h
  ·exact h
  rcases Cf_ok _ ih h with h | h
  ·exact h
  rcases Da_ok _ ih h with h | h
  ·exact h
  rcases Dj_ok _ ih h with h | h
  ·exact h
  rcases Du_ok _ ih h with h | h
  ·exact h
  rcases Bg_ok _ ih h with h | h
  ·exact h
  rcases Bm_ok _ ih h with h | h
  ·exact h
  rcases Bb_ok _ ih h with h | h
  ·exact h
  rcases Aj_ok _ ih h with h | h
  ·exact h
  rcases Dk_ok _ ih h with h | h
  ·exact h
  rcases Bf_ok _ ih h with h | h
  ·exact h
  rcases Bx_ok _ ih h with h | h
  ·exact h
  rcases Ba_ok _ ih h with h | h
  ·exact h
  rcases Cu_ok _ ih h with h | h
  ·exact h
  rcases Bc_ok _ ih h with h | h
  ·exact h
  rcases Cp_ok _ ih h with h | h
  ·exact h
  rcases Ag_ok _ ih h with h | h
  ·exact h
  rcases Ap_ok _ ih h with h | h
  ·exact h
  rcases Bj_ok _ ih h with h | h
  ·exact h
  rcases C0_ok _ ih h with h | h
  ·exact h
  rcases C1_ok _ ih h with h | h
  ·exact h
  rcases Bt_ok _ ih h with h | h
  ·exact h
  rcases Cz_ok _ ih h with h | h
  ·exact h
  rcases Di_ok _ ih h with h | h
  ·exact h
  rcases B8_ok _ ih h with h | h
  ·exact h
  rcases A5_ok _ ih h with h | h
  ·exact h
  rcases A6_ok _ ih h with h | h
  ·exact h
  rcases De_ok _ ih h with h | h
  ·exact h
  rcases Bo_ok _ ih h with h | h
  ·exact h
  rcases Cd_ok _ ih h with h | h
  ·exact h
  rcases Cc_ok _ ih h with h | h
  ·exact h
  rcases Bn_ok _ ih h with h | h
  ·exact h
  rcases A8_ok _ ih h with h | h
  ·exact h
  rcases Ab_ok _ ih h with h | h
  ·exact h
  rcases Cm_ok _ ih h with h | h
  ·exact h
  rcases Bz_ok _ ih h with h | h
  ·exact h
  rcases Cn_ok _ ih h with h | h
  ·exact h
  rcases A7_ok _ ih h with h | h
  ·exact h
  rcases By_ok _ ih h with h | h
  ·exact h
  rcases Bu_ok _ ih h with h | h
  ·exact h
  cases h
end Go.Vm.T
