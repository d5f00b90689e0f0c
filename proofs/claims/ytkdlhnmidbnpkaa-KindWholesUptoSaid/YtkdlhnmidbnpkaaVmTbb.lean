/- The functions, as the machine tells them: levels. -/
import Derived.Test.YtkdlhnmidbnpkaaVmTab
set_option linter.unusedVariables false
set_option maxHeartbeats 4000000
set_option maxRecDepth 100000
namespace Go.Vm.T
open Go Go.Vm Go.Proofs
noncomputable def lv : Nat → Lv
  | 0 => { Bn := fun _ _ _ _ => none, Dn := none, Bj := fun _ _ _ => none, Cs := fun _ _ _ => none, Ah := fun _ _ _ _ _ _ _ _ => none, Cc := fun _ _ _ _ _ _ _ _ _ => none, Ar := fun _ _ _ => none, Bc := fun _ _ _ _ _ _ => none, Bs := fun _ _ _ _ _ _ _ _ _ _ _ => none, Ba := fun _ _ _ _ _ _ => none, Bf := fun _ _ _ _ _ _ _ _ _ _ _ _ => none, Bu := fun _ _ _ _ _ _ _ _ _ _ _ _ _ _ _ _ _ _ _ => none, B4 := fun _ _ _ _ _ _ _ _ => none, Ap := fun _ _ _ _ _ _ _ _ _ _ _ _ _ _ _ _ _ _ _ _ _ => none, Bk := fun _ _ _ _ _ _ _ _ _ _ _ _ _ _ _ _ _ _ _ => none, Cy := fun _ _ _ _ _ _ _ _ _ _ _ _ _ _ _ _ _ _ _ _ => none, Bz := fun _ _ _ _ _ _ _ _ _ _ _ _ _ _ _ _ => none, Cm := fun _ _ _ _ _ _ _ _ _ _ _ _ _ _ _ => none, Cn := fun _ _ _ _ _ _ _ _ _ _ _ _ _ _ _ => none, Co := fun _ _ _ _ _ _ _ _ _ _ _ _ _ _ _ => none, B6 := fun _ _ _ _ _ _ _ _ _ _ _ _ _ _ _ => none, B7 := fun _ _ _ _ _ _ _ _ _ _ _ _ _ _ _ => none, B8 := fun _ _ _ _ _ _ _ _ _ _ _ _ _ _ _ => none, Dm := fun _ _ _ _ _ _ _ _ _ _ _ _ _ _ _ _ _ _ _ _ => none, Cz := fun _ _ _ _ _ _ _ _ _ _ _ _ _ _ _ _ _ _ _ _ => none, De := fun _ _ _ _ _ _ _ _ _ _ _ _ _ _ _ _ _ => none, B0 := fun _ _ _ _ _ _ _ _ _ _ _ _ _ _ _ _ => none, Dd := fun _ _ _ _ _ _ _ _ _ _ _ => none, B9 := fun _ _ _ _ => none, Dl := fun _ _ _ _ _ _ => none, Cx := fun _ _ _ _ _ _ => none, Bx := fun _ _ => none, Au := fun _ _ _ _ _ _ _ _ _ => none, C4 := fun _ _ _ _ _ _ _ _ _ _ _ _ _ _ _ _ _ _ _ _ _ _ _ _ _ _ => none, Bw := fun _ _ => none, Di := fun _ => none, C3 := fun _ _ _ _ => none, Dc := fun _ _ _ _ _ _ _ _ _ _ _ _ => none, A5 := fun _ => none, Dh := fun _ _ _ _ _ => none, C6 := fun _ _ => none, Cv := fun _ => none, Br := fun _ => none, Bl := fun _ => none, C1 := fun _ => none, Ao := fun _ _ => none, Bq := fun _ _ => none, Df := none, Bh := fun _ => none, Bv := fun _ => none, Bd := fun _ => none, Dg := fun _ _ => none, C8 := fun _ => none, C7 := fun _ => none, Cw := fun _ _ _ _ _ _ _ _ _ _ _ _ _ _ _ _ _ _ _ _ _ _ => none, B5 := fun _ => none, C0 := fun _ => none, Da := fun _ _ _ => none, Dk := fun _ _ _ => none, Bb := fun _ _ _ _ => none, Bg := fun _ _ _ _ _ _ _ => none, A8 := fun _ _ _ _ => none, Aj := fun _ _ _ _ _ _ _ => none, Db := fun _ _ => none, A9 := fun _ => none, Bm := fun _ => none, A6 := fun _ => none, Cj := fun _ => none, A7 := fun _ _ => none, Cb := fun _ => none, Ae := fun _ _ => none, An := fun _ _ _ => none, Be := fun _ => none, Cq := fun _ => none, Cr := fun _ => none, Bi := fun _ _ _ => none, Cp := fun _ => none, C9 := fun _ => none, By := fun _ _ _ => none, Az := fun _ => none, A4 := fun _ _ _ _ _ => none, C5 := fun _ _ => none, Ct := fun _ _ _ _ _ _ _ _ _ _ => none, Bp := fun _ _ => none, Ad := fun _ _ _ _ _ _ _ _ _ _ _ _ _ _ _ _ _ _ _ => none, B3 := fun _ _ _ _ _ _ _ _ => none, A0 := fun _ _ _ _ _ _ _ _ _ _ _ _ _ _ _ _ _ _ _ _ => none, Ax := fun _ _ _ _ _ _ _ => none, Cf := fun _ _ _ _ => none }
  | n + 1 => { Bn := Bn_b (lv n) n, Dn := Dn_b (lv n) n, Bj := Bj_b (lv n) n, Cs := Cs_b (lv n) n, Ah := Ah_b (lv n) n, Cc := Cc_b (lv n) n, Ar := Ar_b (lv n) n, Bc := Bc_b (lv n) n, Bs := Bs_b (lv n) n, Ba := Ba_b (lv n) n, Bf := Bf_b (lv n) n, Bu := Bu_b (lv n) n, B4 := B4_b (lv n) n, Ap := Ap_b (lv n) n, Bk := Bk_b (lv n) n, Cy := Cy_b (lv n) n, Bz := Bz_b (lv n) n, Cm := Cm_b (lv n) n, Cn := Cn_b (lv n) n, Co := Co_b (lv n) n, B6 := B6_b (lv n) n, B7 := B7_b (lv n) n, B8 := B8_b (lv n) n, Dm := Dm_b (lv n) n, Cz := Cz_b (lv n) n, De := De_b (lv n) n, B0 := B0_b (lv n) n, Dd := Dd_b (lv n) n, B9 := B9_b (lv n) n, Dl := Dl_b (lv n) n, Cx := Cx_b (lv n) n, Bx := Bx_b (lv n) n, Au := Au_b (lv n) n, C4 := C4_b (lv n) n, Bw := Bw_b (lv n) n, Di := Di_b (lv n) n, C3 := C3_b (lv n) n, Dc := Dc_b (lv n) n, A5 := A5_b (lv n) n, Dh := Dh_b (lv n) n, C6 := C6_b (lv n) n, Cv := Cv_b (lv n) n, Br := Br_b (lv n) n, Bl := Bl_b (lv n) n, C1 := C1_b (lv n) n, Ao := Ao_b (lv n) n, Bq := Bq_b (lv n) n, Df := Df_b (lv n) n, Bh := Bh_b (lv n) n, Bv := Bv_b (lv n) n, Bd := Bd_b (lv n) n, Dg := Dg_b (lv n) n, C8 := C8_b (lv n) n, C7 := C7_b (lv n) n, Cw := Cw_b (lv n) n, B5 := B5_b (lv n) n, C0 := C0_b (lv n) n, Da := Da_b (lv n) n, Dk := Dk_b (lv n) n, Bb := Bb_b (lv n) n, Bg := Bg_b (lv n) n, A8 := A8_b (lv n) n, Aj := Aj_b (lv n) n, Db := Db_b (lv n) n, A9 := A9_b (lv n) n, Bm := Bm_b (lv n) n, A6 := A6_b (lv n) n, Cj := Cj_b (lv n) n, A7 := A7_b (lv n) n, Cb := Cb_b (lv n) n, Ae := Ae_b (lv n) n, An := An_b (lv n) n, Be := Be_b (lv n) n, Cq := Cq_b (lv n) n, Cr := Cr_b (lv n) n, Bi := Bi_b (lv n) n, Cp := Cp_b (lv n) n, C9 := C9_b (lv n) n, By := By_b (lv n) n, Az := Az_b (lv n) n, A4 := A4_b (lv n) n, C5 := C5_b (lv n) n, Ct := Ct_b (lv n) n, Bp := Bp_b (lv n) n, Ad := Ad_b (lv n) n, B3 := B3_b (lv n) n, A0 := A0_b (lv n) n, Ax := Ax_b (lv n) n, Cf := Cf_b (lv n) n }
noncomputable abbrev CL (n : Nat) : FuncId → List Arg → Option Res := call Try.prog Jl kp n
def OKo (n : Nat) (o : Lv → {Ω : Type} → FuncId → List Arg → (Res → Option Ω) → Option Ω → Option Ω) : Prop := (∀ m, n = m + 1 → ∀ {Ω : Type}, F4 (Ω := Ω) (CL m) (orK (lv m))) → ∀ {Ω : Type} {f : FuncId} {l : List Arg} {K : Res → Option Ω} {next : Option Ω} {r : Ω}, o (lv n) f l K next = some r → (∃ R, CL n f l = some R ∧ K R = some r) ∨ next = some r
theorem Bn_lv (n : Nat) : (lv (n + 1)).Bn = Bn_b (lv n) n := by kernel_rfl
theorem Bn_up (xa : Int) (xb xc x1 : LL) {Q : Bool → Prop} (h : Tot (fun n _ _ => Bn_b (lv n) n xa xb xc x1) Q) : Tot (fun n _ _ => (lv n).Bn xa xb xc x1) Q := Tot.up (fun n => by rw [Bn_lv]) h
theorem Bn_ok (n : Nat) : OKo n Bn_o := fun ih {_ _ _ _ _ _} h => by
  refine Ay (cl := CL n) (ea := Bn_e) (dr := Bn_d) (fun _ _ h => Bn_ae h) (fun _ _ h => Bn_dr h) (fun a v h => ?_) h
  cases n with | zero => cases h | succ n => rw [Bn_lv] at h; exact Av Aw (ih n rfl) rfl (fun _ _ h => Bn_dr h) h
theorem Dn_lv (n : Nat) : (lv (n + 1)).Dn = Dn_b (lv n) n := by kernel_rfl
theorem Dn_ok (n : Nat) : OKo n Dn_o := fun ih {_ _ _ _ _ _} h => by
  refine Ay (cl := CL n) (ea := Dn_e) (dr := Dn_d) (fun _ _ h => Dn_ae h) (fun _ _ h => Dn_dr h) (fun a v h => ?_) h
  cases n with | zero => cases h | succ n => rw [Dn_lv] at h; exact Av Aw (ih n rfl) rfl (fun _ _ h => Dn_dr h) h
theorem Bj_lv (n : Nat) : (lv (n + 1)).Bj = Bj_b (lv n) n := by kernel_rfl
theorem Bj_up (xa : Int) (xb xc : LL) {Q : (LL × LL × LL × Int × Int × Int × LL × LL) → Prop} (h : Tot (fun n _ _ => Bj_b (lv n) n xa xb xc) Q) : Tot (fun n _ _ => (lv n).Bj xa xb xc) Q := Tot.up (fun n => by rw [Bj_lv]) h
theorem Bj_ok (n : Nat) : OKo n Bj_o := fun ih {_ _ _ _ _ _} h => by
  refine Ay (cl := CL n) (ea := Bj_e) (dr := Bj_d) (fun _ _ h => Bj_ae h) (fun _ _ h => Bj_dr h) (fun a v h => ?_) h
  cases n with | zero => cases h | succ n => rw [Bj_lv] at h; exact Av Aw (ih n rfl) rfl (fun _ _ h => Bj_dr h) h
theorem Cs_lv (n : Nat) : (lv (n + 1)).Cs = Cs_b (lv n) n := by kernel_rfl
theorem Cs_up (xa : Int) (xb xc : LL) {Q : (Int × Int × Int × LL × LL) → Prop} (h : Tot (fun n _ _ => Cs_b (lv n) n xa xb xc) Q) : Tot (fun n _ _ => (lv n).Cs xa xb xc) Q := Tot.up (fun n => by rw [Cs_lv]) h
theorem Cs_ok (n : Nat) : OKo n Cs_o := fun ih {_ _ _ _ _ _} h => by
  refine Ay (cl := CL n) (ea := Cs_e) (dr := Cs_d) (fun _ _ h => Cs_ae h) (fun _ _ h => Cs_dr h) (fun a v h => ?_) h
  cases n with | zero => cases h | succ n => rw [Cs_lv] at h; exact Av Aw (ih n rfl) rfl (fun _ _ h => Cs_dr h) h
theorem Ah_lv (n : Nat) : (lv (n + 1)).Ah = Ah_b (lv n) n := by kernel_rfl
theorem Ah_up (xa xb xc : Int) (xd xe : LL) (xf : Int) (xg xi : LL) {Q : (Int × Int × Int × LL × LL × Int × Int) → Prop} (h : Tot (fun n _ _ => Ah_b (lv n) n xa xb xc xd xe xf xg xi) Q) : Tot (fun n _ _ => (lv n).Ah xa xb xc xd xe xf xg xi) Q := Tot.up (fun n => by rw [Ah_lv]) h
theorem Ah_ok (n : Nat) : OKo n Ah_o := fun ih {_ _ _ _ _ _} h => by
  refine Ay (cl := CL n) (ea := Ah_e) (dr := Ah_d) (fun _ _ h => Ah_ae h) (fun _ _ h => Ah_dr h) (fun a v h => ?_) h
  cases n with | zero => cases h | succ n => rw [Ah_lv] at h; exact Av Aw (ih n rfl) rfl (fun _ _ h => Ah_dr h) h
theorem Cc_lv (n : Nat) : (lv (n + 1)).Cc = Cc_b (lv n) n := by kernel_rfl
theorem Cc_up (xa xb xc : Int) (xd xe : LL) (x1 x2 x3 x4 : Int) {Q : (Int × Int × Int × LL × LL) → Prop} (h : Tot (fun n _ _ => Cc_b (lv n) n xa xb xc xd xe x1 x2 x3 x4) Q) : Tot (fun n _ _ => (lv n).Cc xa xb xc xd xe x1 x2 x3 x4) Q := Tot.up (fun n => by rw [Cc_lv]) h
theorem Cc_ok (n : Nat) : OKo n Cc_o := fun ih {_ _ _ _ _ _} h => by
  refine Ay (cl := CL n) (ea := Cc_e) (dr := Cc_d) (fun _ _ h => Cc_ae h) (fun _ _ h => Cc_dr h) (fun a v h => ?_) h
  cases n with | zero => cases h | succ n => rw [Cc_lv] at h; exact Av Aw (ih n rfl) rfl (fun _ _ h => Cc_dr h) h
theorem Ar_lv (n : Nat) : (lv (n + 1)).Ar = Ar_b (lv n) n := by kernel_rfl
theorem Ar_up (xa : Int) (xb xc : LL) {Q : LL → Prop} (h : Tot (fun n _ _ => Ar_b (lv n) n xa xb xc) Q) : Tot (fun n _ _ => (lv n).Ar xa xb xc) Q := Tot.up (fun n => by rw [Ar_lv]) h
theorem Ar_ok (n : Nat) : OKo n Ar_o := fun ih {_ _ _ _ _ _} h => by
  refine Ay (cl := CL n) (ea := Ar_e) (dr := Ar_d) (fun _ _ h => Ar_ae h) (fun _ _ h => Ar_dr h) (fun a v h => ?_) h
  cases n with | zero => cases h | succ n => rw [Ar_lv] at h; exact Av Aw (ih n rfl) rfl (fun _ _ h => Ar_dr h) h
theorem Bc_lv (n : Nat) : (lv (n + 1)).Bc = Bc_b (lv n) n := by kernel_rfl
theorem Bc_up (xa : Int) (xb xc xd : ByteArray) (xe xh : LL) {Q : LL → Prop} (h : Tot (fun n _ _ => Bc_b (lv n) n xa xb xc xd xe xh) Q) : Tot (fun n _ _ => (lv n).Bc xa xb xc xd xe xh) Q := Tot.up (fun n => by rw [Bc_lv]) h
theorem Bc_ok (n : Nat) : OKo n Bc_o := fun ih {_ _ _ _ _ _} h => by
  refine Ay (cl := CL n) (ea := Bc_e) (dr := Bc_d) (fun _ _ h => Bc_ae h) (fun _ _ h => Bc_dr h) (fun a v h => ?_) h
  cases n with | zero => cases h | succ n => rw [Bc_lv] at h; exact Av Aw (ih n rfl) rfl (fun _ _ h => Bc_dr h) h
theorem Bs_lv (n : Nat) : (lv (n + 1)).Bs = Bs_b (lv n) n := by kernel_rfl
theorem Bs_up (xa xb xc : LL) (xd xe xh : Int) (xj xk : LL) (xf : Int) (xg xi : LL) {Q : Int → Prop} (h : Tot (fun n _ _ => Bs_b (lv n) n xa xb xc xd xe xh xj xk xf xg xi) Q) : Tot (fun n _ _ => (lv n).Bs xa xb xc xd xe xh xj xk xf xg xi) Q := Tot.up (fun n => by rw [Bs_lv]) h
theorem Bs_ok (n : Nat) : OKo n Bs_o := fun ih {_ _ _ _ _ _} h => by
  refine Ay (cl := CL n) (ea := Bs_e) (dr := Bs_d) (fun _ _ h => Bs_ae h) (fun _ _ h => Bs_dr h) (fun a v h => ?_) h
  cases n with | zero => cases h | succ n => rw [Bs_lv] at h; exact Av Aw (ih n rfl) rfl (fun _ _ h => Bs_dr h) h
theorem Ba_lv (n : Nat) : (lv (n + 1)).Ba = Ba_b (lv n) n := by kernel_rfl
theorem Ba_up (xa : Int) (xb xc : LL) (xf : Int) (xg xi : LL) {Q : Bool → Prop} (h : Tot (fun n _ _ => Ba_b (lv n) n xa xb xc xf xg xi) Q) : Tot (fun n _ _ => (lv n).Ba xa xb xc xf xg xi) Q := Tot.up (fun n => by rw [Ba_lv]) h
theorem Ba_ok (n : Nat) : OKo n Ba_o := fun ih {_ _ _ _ _ _} h => by
  refine Ay (cl := CL n) (ea := Ba_e) (dr := Ba_d) (fun _ _ h => Ba_ae h) (fun _ _ h => Ba_dr h) (fun a v h => ?_) h
  cases n with | zero => cases h | succ n => rw [Ba_lv] at h; exact Av Aw (ih n rfl) rfl (fun _ _ h => Ba_dr h) h
theorem Bf_lv (n : Nat) : (lv (n + 1)).Bf = Bf_b (lv n) n := by kernel_rfl
theorem Bf_up (xa : Int) (xb xc xd : ByteArray) (xe xh : LL) (xf : Int) (xg xi xl : ByteArray) (xm xn : LL) {Q : Bool → Prop} (h : Tot (fun n _ _ => Bf_b (lv n) n xa xb xc xd xe xh xf xg xi xl xm xn) Q) : Tot (fun n _ _ => (lv n).Bf xa xb xc xd xe xh xf xg xi xl xm xn) Q := Tot.up (fun n => by rw [Bf_lv]) h
theorem Bf_ok (n : Nat) : OKo n Bf_o := fun ih {_ _ _ _ _ _} h => by
  refine Ay (cl := CL n) (ea := Bf_e) (dr := Bf_d) (fun _ _ h => Bf_ae h) (fun _ _ h => Bf_dr h) (fun a v h => ?_) h
  cases n with | zero => cases h | succ n => rw [Bf_lv] at h; exact Av Aw (ih n rfl) rfl (fun _ _ h => Bf_dr h) h
theorem Bu_lv (n : Nat) : (lv (n + 1)).Bu = Bu_b (lv n) n := by kernel_rfl
theorem Bu_up (xa xb xc : LL) (xd xe xh : Int) (xj xk : LL) (xf : Int) (xg xi : ByteArray) (xl : LL) (xm : ByteArray) (yc yd : Bool) (ye : ByteArray) (yn yo : Bool) (yp : ByteArray) {Q : (Bool × Bool × ByteArray) → Prop} (h : Tot (fun n _ _ => Bu_b (lv n) n xa xb xc xd xe xh xj xk xf xg xi xl xm yc yd ye yn yo yp) Q) : Tot (fun n _ _ => (lv n).Bu xa xb xc xd xe xh xj xk xf xg xi xl xm yc yd ye yn yo yp) Q := Tot.up (fun n => by rw [Bu_lv]) h
theorem Bu_ok (n : Nat) : OKo n Bu_o := fun ih {_ _ _ _ _ _} h => by
  refine Ay (cl := CL n) (ea := Bu_e) (dr := Bu_d) (fun _ _ h => Bu_ae h) (fun _ _ h => Bu_dr h) (fun a v h => ?_) h
  cases n with | zero => cases h | succ n => rw [Bu_lv] at h; exact Av Aw (ih n rfl) rfl (fun _ _ h => Bu_dr h) h
theorem B4_lv (n : Nat) : (lv (n + 1)).B4 = B4_b (lv n) n := by kernel_rfl
theorem B4_up (xa xb xc : LL) (xd xe xh : Int) (xj xk : LL) {Q : Int → Prop} (h : Tot (fun n _ _ => B4_b (lv n) n xa xb xc xd xe xh xj xk) Q) : Tot (fun n _ _ => (lv n).B4 xa xb xc xd xe xh xj xk) Q := Tot.up (fun n => by rw [B4_lv]) h
theorem B4_ok (n : Nat) : OKo n B4_o := fun ih {_ _ _ _ _ _} h => by
  refine Ay (cl := CL n) (ea := B4_e) (dr := B4_d) (fun _ _ h => B4_ae h) (fun _ _ h => B4_dr h) (fun a v h => ?_) h
  cases n with | zero => cases h | succ n => rw [B4_lv] at h; exact Av Aw (ih n rfl) rfl (fun _ _ h => B4_dr h) h
theorem Ap_lv (n : Nat) : (lv (n + 1)).Ap = Ap_b (lv n) n := by kernel_rfl
theorem Ap_up (xa xb xc : LL) (xd xe xh : Int) (xj xk : LL) (xs : Int) (xt xo : ByteArray) (xp : LL) (xq : ByteArray) (xr yg : Bool) (yh : ByteArray) (yi yj : Bool) (yk : ByteArray) (yl : LL) (x1 : Int) {Q : (LL × LL × LL × Int × Int × Int × LL × LL × Int × ByteArray × ByteArray × LL × ByteArray × Bool × Bool × ByteArray × Bool × Bool × ByteArray × LL) → Prop} (h : Tot (fun n _ _ => Ap_b (lv n) n xa xb xc xd xe xh xj xk xs xt xo xp xq xr yg yh yi yj yk yl x1) Q) : Tot (fun n _ _ => (lv n).Ap xa xb xc xd xe xh xj xk xs xt xo xp xq xr yg yh yi yj yk yl x1) Q := Tot.up (fun n => by rw [Ap_lv]) h
theorem Ap_ok (n : Nat) : OKo n Ap_o := fun ih {_ _ _ _ _ _} h => by
  refine Ay (cl := CL n) (ea := Ap_e) (dr := Ap_d) (fun _ _ h => Ap_ae h) (fun _ _ h => Ap_dr h) (fun a v h => ?_) h
  cases n with | zero => cases h | succ n => rw [Ap_lv] at h; exact Av Aw (ih n rfl) rfl (fun _ _ h => Ap_dr h) h
theorem Bk_lv (n : Nat) : (lv (n + 1)).Bk = Bk_b (lv n) n := by kernel_rfl
theorem Bk_up (xa xb xc : LL) (xd xe xh : Int) (xj xk : LL) (xf xg xi : Int) (xl xm : LL) (yc : Int) (yd ye : ByteArray) (yf : LL) (ym : ByteArray) (x3 : LL) {Q : LL → Prop} (h : Tot (fun n _ _ => Bk_b (lv n) n xa xb xc xd xe xh xj xk xf xg xi xl xm yc yd ye yf ym x3) Q) : Tot (fun n _ _ => (lv n).Bk xa xb xc xd xe xh xj xk xf xg xi xl xm yc yd ye yf ym x3) Q := Tot.up (fun n => by rw [Bk_lv]) h
theorem Bk_ok (n : Nat) : OKo n Bk_o := fun ih {_ _ _ _ _ _} h => by
  refine Ay (cl := CL n) (ea := Bk_e) (dr := Bk_d) (fun _ _ h => Bk_ae h) (fun _ _ h => Bk_dr h) (fun a v h => ?_) h
  cases n with | zero => cases h | succ n => rw [Bk_lv] at h; exact Av Aw (ih n rfl) rfl (fun _ _ h => Bk_dr h) h
theorem Cy_lv (n : Nat) : (lv (n + 1)).Cy = Cy_b (lv n) n := by kernel_rfl
theorem Cy_up (xa xb xc : LL) (xd xe xh : Int) (xj xk : LL) (xs : Int) (xt xo : ByteArray) (xp : LL) (xq : ByteArray) (xr : LL) (xf : Int) (xg xi xl : ByteArray) (xm xn : LL) {Q : (Bool × LL × LL × LL × Int × Int × Int × LL × LL × Int × ByteArray × ByteArray × LL × ByteArray × LL) → Prop} (h : Tot (fun n _ _ => Cy_b (lv n) n xa xb xc xd xe xh xj xk xs xt xo xp xq xr xf xg xi xl xm xn) Q) : Tot (fun n _ _ => (lv n).Cy xa xb xc xd xe xh xj xk xs xt xo xp xq xr xf xg xi xl xm xn) Q := Tot.up (fun n => by rw [Cy_lv]) h
theorem Cy_ok (n : Nat) : OKo n Cy_o := fun ih {_ _ _ _ _ _} h => by
  refine Ay (cl := CL n) (ea := Cy_e) (dr := Cy_d) (fun _ _ h => Cy_ae h) (fun _ _ h => Cy_dr h) (fun a v h => ?_) h
  cases n with | zero => cases h | succ n => rw [Cy_lv] at h; exact Av Aw (ih n rfl) rfl (fun _ _ h => Cy_dr h) h
theorem Bz_lv (n : Nat) : (lv (n + 1)).Bz = Bz_b (lv n) n := by kernel_rfl
theorem Bz_up (xa xb xc : LL) (xd xe xh : Int) (xj xk : LL) (xs : Int) (xt xo : ByteArray) (xp : LL) (xq : ByteArray) (xr : LL) (xf xg : ByteArray) {Q : (ByteArray × Bool × LL × LL × LL × Int × Int × Int × LL × LL × Int × ByteArray × ByteArray × LL × ByteArray × LL) → Prop} (h : Tot (fun n _ _ => Bz_b (lv n) n xa xb xc xd xe xh xj xk xs xt xo xp xq xr xf xg) Q) : Tot (fun n _ _ => (lv n).Bz xa xb xc xd xe xh xj xk xs xt xo xp xq xr xf xg) Q := Tot.up (fun n => by rw [Bz_lv]) h
theorem Bz_ok (n : Nat) : OKo n Bz_o := fun ih {_ _ _ _ _ _} h => by
  refine Ay (cl := CL n) (ea := Bz_e) (dr := Bz_d) (fun _ _ h => Bz_ae h) (fun _ _ h => Bz_dr h) (fun a v h => ?_) h
  cases n with | zero => cases h | succ n => rw [Bz_lv] at h; exact Av Aw (ih n rfl) rfl (fun _ _ h => Bz_dr h) h
theorem Cm_lv (n : Nat) : (lv (n + 1)).Cm = Cm_b (lv n) n := by kernel_rfl
theorem Cm_up (x0 xf xg xi : LL) (xl xm xn : Int) (xy xz : LL) (ya : Int) (yb xu : ByteArray) (xv : LL) (xw : ByteArray) (xx : LL) {Q : Bool → Prop} (h : Tot (fun n _ _ => Cm_b (lv n) n x0 xf xg xi xl xm xn xy xz ya yb xu xv xw xx) Q) : Tot (fun n _ _ => (lv n).Cm x0 xf xg xi xl xm xn xy xz ya yb xu xv xw xx) Q := Tot.up (fun n => by rw [Cm_lv]) h
theorem Cm_ok (n : Nat) : OKo n Cm_o := fun ih {_ _ _ _ _ _} h => by
  refine Ay (cl := CL n) (ea := Cm_e) (dr := Cm_d) (fun _ _ h => Cm_ae h) (fun _ _ h => Cm_dr h) (fun a v h => ?_) h
  cases n with | zero => cases h | succ n => rw [Cm_lv] at h; exact Av Aw (ih n rfl) rfl (fun _ _ h => Cm_dr h) h
theorem Cn_lv (n : Nat) : (lv (n + 1)).Cn = Cn_b (lv n) n := by kernel_rfl
theorem Cn_up (x0 xf xg xi : LL) (xl xm xn : Int) (xy xz : LL) (ya : Int) (yb xu : ByteArray) (xv : LL) (xw : ByteArray) (xx : LL) {Q : Bool → Prop} (h : Tot (fun n _ _ => Cn_b (lv n) n x0 xf xg xi xl xm xn xy xz ya yb xu xv xw xx) Q) : Tot (fun n _ _ => (lv n).Cn x0 xf xg xi xl xm xn xy xz ya yb xu xv xw xx) Q := Tot.up (fun n => by rw [Cn_lv]) h
theorem Cn_ok (n : Nat) : OKo n Cn_o := fun ih {_ _ _ _ _ _} h => by
  refine Ay (cl := CL n) (ea := Cn_e) (dr := Cn_d) (fun _ _ h => Cn_ae h) (fun _ _ h => Cn_dr h) (fun a v h => ?_) h
  cases n with | zero => cases h | succ n => rw [Cn_lv] at h; exact Av Aw (ih n rfl) rfl (fun _ _ h => Cn_dr h) h
theorem Co_lv (n : Nat) : (lv (n + 1)).Co = Co_b (lv n) n := by kernel_rfl
theorem Co_up (x0 xf xg xi : LL) (xl xm xn : Int) (xy xz : LL) (ya : Int) (yb xu : ByteArray) (xv : LL) (xw : ByteArray) (xx : LL) {Q : Bool → Prop} (h : Tot (fun n _ _ => Co_b (lv n) n x0 xf xg xi xl xm xn xy xz ya yb xu xv xw xx) Q) : Tot (fun n _ _ => (lv n).Co x0 xf xg xi xl xm xn xy xz ya yb xu xv xw xx) Q := Tot.up (fun n => by rw [Co_lv]) h
theorem Co_ok (n : Nat) : OKo n Co_o := fun ih {_ _ _ _ _ _} h => by
  refine Ay (cl := CL n) (ea := Co_e) (dr := Co_d) (fun _ _ h => Co_ae h) (fun _ _ h => Co_dr h) (fun a v h => ?_) h
  cases n with | zero => cases h | succ n => rw [Co_lv] at h; exact Av Aw (ih n rfl) rfl (fun _ _ h => Co_dr h) h
theorem B6_lv (n : Nat) : (lv (n + 1)).B6 = B6_b (lv n) n := by kernel_rfl
theorem B6_up (x0 xf xg xi : LL) (xl xm xn : Int) (xy xz : LL) (ya : Int) (yb xu : ByteArray) (xv : LL) (xw : ByteArray) (xx : LL) {Q : Int → Prop} (h : Tot (fun n _ _ => B6_b (lv n) n x0 xf xg xi xl xm xn xy xz ya yb xu xv xw xx) Q) : Tot (fun n _ _ => (lv n).B6 x0 xf xg xi xl xm xn xy xz ya yb xu xv xw xx) Q := Tot.up (fun n => by rw [B6_lv]) h
theorem B6_ok (n : Nat) : OKo n B6_o := fun ih {_ _ _ _ _ _} h => by
  refine Ay (cl := CL n) (ea := B6_e) (dr := B6_d) (fun _ _ h => B6_ae h) (fun _ _ h => B6_dr h) (fun a v h => ?_) h
  cases n with | zero => cases h | succ n => rw [B6_lv] at h; exact Av Aw (ih n rfl) rfl (fun _ _ h => B6_dr h) h
theorem B7_lv (n : Nat) : (lv (n + 1)).B7 = B7_b (lv n) n := by kernel_rfl
theorem B7_up (x0 xf xg xi : LL) (xl xm xn : Int) (xy xz : LL) (ya : Int) (yb xu : ByteArray) (xv : LL) (xw : ByteArray) (xx : LL) {Q : Int → Prop} (h : Tot (fun n _ _ => B7_b (lv n) n x0 xf xg xi xl xm xn xy xz ya yb xu xv xw xx) Q) : Tot (fun n _ _ => (lv n).B7 x0 xf xg xi xl xm xn xy xz ya yb xu xv xw xx) Q := Tot.up (fun n => by rw [B7_lv]) h
theorem B7_ok (n : Nat) : OKo n B7_o := fun ih {_ _ _ _ _ _} h => by
  refine Ay (cl := CL n) (ea := B7_e) (dr := B7_d) (fun _ _ h => B7_ae h) (fun _ _ h => B7_dr h) (fun a v h => ?_) h
  cases n with | zero => cases h | succ n => rw [B7_lv] at h; exact Av Aw (ih n rfl) rfl (fun _ _ h => B7_dr h) h
theorem B8_lv (n : Nat) : (lv (n + 1)).B8 = B8_b (lv n) n := by kernel_rfl
theorem B8_up (x0 xf xg xi : LL) (xl xm xn : Int) (xy xz : LL) (ya : Int) (yb xu : ByteArray) (xv : LL) (xw : ByteArray) (xx : LL) {Q : Int → Prop} (h : Tot (fun n _ _ => B8_b (lv n) n x0 xf xg xi xl xm xn xy xz ya yb xu xv xw xx) Q) : Tot (fun n _ _ => (lv n).B8 x0 xf xg xi xl xm xn xy xz ya yb xu xv xw xx) Q := Tot.up (fun n => by rw [B8_lv]) h
theorem B8_ok (n : Nat) : OKo n B8_o := fun ih {_ _ _ _ _ _} h => by
  refine Ay (cl := CL n) (ea := B8_e) (dr := B8_d) (fun _ _ h => B8_ae h) (fun _ _ h => B8_dr h) (fun a v h => ?_) h
  cases n with | zero => cases h | succ n => rw [B8_lv] at h; exact Av Aw (ih n rfl) rfl (fun _ _ h => B8_dr h) h
theorem Dm_lv (n : Nat) : (lv (n + 1)).Dm = Dm_b (lv n) n := by kernel_rfl
theorem Dm_up (xa xb xc : LL) (xd xe xh : Int) (xj xk : LL) (xs : Int) (xt xo : ByteArray) (xp : LL) (xq : ByteArray) (xr : LL) (xf : Int) (xg xi xl : ByteArray) (xm xn : LL) {Q : Bool → Prop} (h : Tot (fun n _ _ => Dm_b (lv n) n xa xb xc xd xe xh xj xk xs xt xo xp xq xr xf xg xi xl xm xn) Q) : Tot (fun n _ _ => (lv n).Dm xa xb xc xd xe xh xj xk xs xt xo xp xq xr xf xg xi xl xm xn) Q := Tot.up (fun n => by rw [Dm_lv]) h
theorem Dm_ok (n : Nat) : OKo n Dm_o := fun ih {_ _ _ _ _ _} h => by
  refine Ay (cl := CL n) (ea := Dm_e) (dr := Dm_d) (fun _ _ h => Dm_ae h) (fun _ _ h => Dm_dr h) (fun a v h => ?_) h
  cases n with | zero => cases h | succ n => rw [Dm_lv] at h; exact Av Aw (ih n rfl) rfl (fun _ _ h => Dm_dr h) h
theorem Cz_lv (n : Nat) : (lv (n + 1)).Cz = Cz_b (lv n) n := by kernel_rfl
theorem Cz_up (xa xb xc : LL) (xd xe xh : Int) (xj xk : LL) (xs : Int) (xt xo : ByteArray) (xp : LL) (xq : ByteArray) (xr : LL) (xf : Int) (xg xi xl : ByteArray) (xm xn : LL) {Q : Bool → Prop} (h : Tot (fun n _ _ => Cz_b (lv n) n xa xb xc xd xe xh xj xk xs xt xo xp xq xr xf xg xi xl xm xn) Q) : Tot (fun n _ _ => (lv n).Cz xa xb xc xd xe xh xj xk xs xt xo xp xq xr xf xg xi xl xm xn) Q := Tot.up (fun n => by rw [Cz_lv]) h
theorem Cz_ok (n : Nat) : OKo n Cz_o := fun ih {_ _ _ _ _ _} h => by
  refine Ay (cl := CL n) (ea := Cz_e) (dr := Cz_d) (fun _ _ h => Cz_ae h) (fun _ _ h => Cz_dr h) (fun a v h => ?_) h
  cases n with | zero => cases h | succ n => rw [Cz_lv] at h; exact Av Aw (ih n rfl) rfl (fun _ _ h => Cz_dr h) h
theorem De_lv (n : Nat) : (lv (n + 1)).De = De_b (lv n) n := by kernel_rfl
theorem De_up (xa xb xc : LL) (xd xe xh : Int) (xj xk : LL) (xs : Int) (xt xo : ByteArray) (xp : LL) (xq : ByteArray) (xr : LL) (xf : Int) (xg xi : LL) {Q : Bool → Prop} (h : Tot (fun n _ _ => De_b (lv n) n xa xb xc xd xe xh xj xk xs xt xo xp xq xr xf xg xi) Q) : Tot (fun n _ _ => (lv n).De xa xb xc xd xe xh xj xk xs xt xo xp xq xr xf xg xi) Q := Tot.up (fun n => by rw [De_lv]) h
theorem De_ok (n : Nat) : OKo n De_o := fun ih {_ _ _ _ _ _} h => by
  refine Ay (cl := CL n) (ea := De_e) (dr := De_d) (fun _ _ h => De_ae h) (fun _ _ h => De_dr h) (fun a v h => ?_) h
  cases n with | zero => cases h | succ n => rw [De_lv] at h; exact Av Aw (ih n rfl) rfl (fun _ _ h => De_dr h) h
theorem B0_lv (n : Nat) : (lv (n + 1)).B0 = B0_b (lv n) n := by kernel_rfl
theorem B0_up (xa xb xc : LL) (xd xe xh : Int) (xj xk : LL) (xs : Int) (xt xo : ByteArray) (xp : LL) (xq : ByteArray) (xr : LL) (xf xg : ByteArray) {Q : (ByteArray × Bool) → Prop} (h : Tot (fun n _ _ => B0_b (lv n) n xa xb xc xd xe xh xj xk xs xt xo xp xq xr xf xg) Q) : Tot (fun n _ _ => (lv n).B0 xa xb xc xd xe xh xj xk xs xt xo xp xq xr xf xg) Q := Tot.up (fun n => by rw [B0_lv]) h
theorem B0_ok (n : Nat) : OKo n B0_o := fun ih {_ _ _ _ _ _} h => by
  refine Ay (cl := CL n) (ea := B0_e) (dr := B0_d) (fun _ _ h => B0_ae h) (fun _ _ h => B0_dr h) (fun a v h => ?_) h
  cases n with | zero => cases h | succ n => rw [B0_lv] at h; exact Av Aw (ih n rfl) rfl (fun _ _ h => B0_dr h) h
theorem Dd_lv (n : Nat) : (lv (n + 1)).Dd = Dd_b (lv n) n := by kernel_rfl
theorem Dd_up (xa xb xc : LL) (xd xe xh : Int) (xj xk : LL) (xf : Int) (xg xi : LL) {Q : Int → Prop} (h : Tot (fun n _ _ => Dd_b (lv n) n xa xb xc xd xe xh xj xk xf xg xi) Q) : Tot (fun n _ _ => (lv n).Dd xa xb xc xd xe xh xj xk xf xg xi) Q := Tot.up (fun n => by rw [Dd_lv]) h
theorem Dd_ok (n : Nat) : OKo n Dd_o := fun ih {_ _ _ _ _ _} h => by
  refine Ay (cl := CL n) (ea := Dd_e) (dr := Dd_d) (fun _ _ h => Dd_ae h) (fun _ _ h => Dd_dr h) (fun a v h => ?_) h
  cases n with | zero => cases h | succ n => rw [Dd_lv] at h; exact Av Aw (ih n rfl) rfl (fun _ _ h => Dd_dr h) h
theorem B9_lv (n : Nat) : (lv (n + 1)).B9 = B9_b (lv n) n := by kernel_rfl
theorem B9_up (x0 : LL) (xf : Int) (xg xi : LL) {Q : Int → Prop} (h : Tot (fun n _ _ => B9_b (lv n) n x0 xf xg xi) Q) : Tot (fun n _ _ => (lv n).B9 x0 xf xg xi) Q := Tot.up (fun n => by rw [B9_lv]) h
theorem B9_ok (n : Nat) : OKo n B9_o := fun ih {_ _ _ _ _ _} h => by
  refine Ay (cl := CL n) (ea := B9_e) (dr := B9_d) (fun _ _ h => B9_ae h) (fun _ _ h => B9_dr h) (fun a v h => ?_) h
  cases n with | zero => cases h | succ n => rw [B9_lv] at h; exact Av Aw (ih n rfl) rfl (fun _ _ h => B9_dr h) h
theorem Dl_lv (n : Nat) : (lv (n + 1)).Dl = Dl_b (lv n) n := by kernel_rfl
theorem Dl_up (xa : Int) (xb xc : LL) (xf : Int) (xg xi : LL) {Q : Bool → Prop} (h : Tot (fun n _ _ => Dl_b (lv n) n xa xb xc xf xg xi) Q) : Tot (fun n _ _ => (lv n).Dl xa xb xc xf xg xi) Q := Tot.up (fun n => by rw [Dl_lv]) h
theorem Dl_ok (n : Nat) : OKo n Dl_o := fun ih {_ _ _ _ _ _} h => by
  refine Ay (cl := CL n) (ea := Dl_e) (dr := Dl_d) (fun _ _ h => Dl_ae h) (fun _ _ h => Dl_dr h) (fun a v h => ?_) h
  cases n with | zero => cases h | succ n => rw [Dl_lv] at h; exact Av Aw (ih n rfl) rfl (fun _ _ h => Dl_dr h) h
theorem Cx_lv (n : Nat) : (lv (n + 1)).Cx = Cx_b (lv n) n := by kernel_rfl
theorem Cx_up (xa : Int) (xb xc : LL) (xf : Int) (xg xi : LL) {Q : Bool → Prop} (h : Tot (fun n _ _ => Cx_b (lv n) n xa xb xc xf xg xi) Q) : Tot (fun n _ _ => (lv n).Cx xa xb xc xf xg xi) Q := Tot.up (fun n => by rw [Cx_lv]) h
theorem Cx_ok (n : Nat) : OKo n Cx_o := fun ih {_ _ _ _ _ _} h => by
  refine Ay (cl := CL n) (ea := Cx_e) (dr := Cx_d) (fun _ _ h => Cx_ae h) (fun _ _ h => Cx_dr h) (fun a v h => ?_) h
  cases n with | zero => cases h | succ n => rw [Cx_lv] at h; exact Av Aw (ih n rfl) rfl (fun _ _ h => Cx_dr h) h
theorem Bx_lv (n : Nat) : (lv (n + 1)).Bx = Bx_b (lv n) n := by kernel_rfl
theorem Bx_up (x0 x1 : LL) {Q : Bool → Prop} (h : Tot (fun n _ _ => Bx_b (lv n) n x0 x1) Q) : Tot (fun n _ _ => (lv n).Bx x0 x1) Q := Tot.up (fun n => by rw [Bx_lv]) h
theorem Bx_ok (n : Nat) : OKo n Bx_o := fun ih {_ _ _ _ _ _} h => by
  refine Ay (cl := CL n) (ea := Bx_e) (dr := Bx_d) (fun _ _ h => Bx_ae h) (fun _ _ h => Bx_dr h) (fun a v h => ?_) h
  cases n with | zero => cases h | succ n => rw [Bx_lv] at h; exact Av Aw (ih n rfl) rfl (fun _ _ h => Bx_dr h) h
theorem Au_lv (n : Nat) : (lv (n + 1)).Au = Au_b (lv n) n := by kernel_rfl
theorem Au_up (xa xb xc : LL) (xd xe xh : Int) (xj xk x1 : LL) {Q : LL → Prop} (h : Tot (fun n _ _ => Au_b (lv n) n xa xb xc xd xe xh xj xk x1) Q) : Tot (fun n _ _ => (lv n).Au xa xb xc xd xe xh xj xk x1) Q := Tot.up (fun n => by rw [Au_lv]) h
theorem Au_ok (n : Nat) : OKo n Au_o := fun ih {_ _ _ _ _ _} h => by
  refine Ay (cl := CL n) (ea := Au_e) (dr := Au_d) (fun _ _ h => Au_ae h) (fun _ _ h => Au_dr h) (fun a v h => ?_) h
  cases n with | zero => cases h | succ n => rw [Au_lv] at h; exact Av Aw (ih n rfl) rfl (fun _ _ h => Au_dr h) h
theorem C4_lv (n : Nat) : (lv (n + 1)).C4 = C4_b (lv n) n := by kernel_rfl
theorem C4_up (xa xb xc : LL) (xd xe xh : Int) (xj xk : LL) (xs : Int) (xt xo : ByteArray) (xp : LL) (xq : ByteArray) (xr yg : Bool) (yh : ByteArray) (yi yj : Bool) (yk : ByteArray) (yl : LL) (x1 yc yd ye yf : Int) (x3 : LL) {Q : (Bool × LL × LL × LL × Int × Int × Int × LL × LL × Int × ByteArray × ByteArray × LL × ByteArray × Bool × Bool × ByteArray × Bool × Bool × ByteArray × LL) → Prop} (h : Tot (fun n _ _ => C4_b (lv n) n xa xb xc xd xe xh xj xk xs xt xo xp xq xr yg yh yi yj yk yl x1 yc yd ye yf x3) Q) : Tot (fun n _ _ => (lv n).C4 xa xb xc xd xe xh xj xk xs xt xo xp xq xr yg yh yi yj yk yl x1 yc yd ye yf x3) Q := Tot.up (fun n => by rw [C4_lv]) h
theorem C4_ok (n : Nat) : OKo n C4_o := fun ih {_ _ _ _ _ _} h => by
  refine Ay (cl := CL n) (ea := C4_e) (dr := C4_d) (fun _ _ h => C4_ae h) (fun _ _ h => C4_dr h) (fun a v h => ?_) h
  cases n with | zero => cases h | succ n => rw [C4_lv] at h; exact Av Aw (ih n rfl) rfl (fun _ _ h => C4_dr h) h
theorem Bw_lv (n : Nat) : (lv (n + 1)).Bw = Bw_b (lv n) n := by kernel_rfl
theorem Bw_up (x0 x1 : LL) {Q : Bool → Prop} (h : Tot (fun n _ _ => Bw_b (lv n) n x0 x1) Q) : Tot (fun n _ _ => (lv n).Bw x0 x1) Q := Tot.up (fun n => by rw [Bw_lv]) h
theorem Bw_ok (n : Nat) : OKo n Bw_o := fun ih {_ _ _ _ _ _} h => by
  refine Ay (cl := CL n) (ea := Bw_e) (dr := Bw_d) (fun _ _ h => Bw_ae h) (fun _ _ h => Bw_dr h) (fun a v h => ?_) h
  cases n with | zero => cases h | succ n => rw [Bw_lv] at h; exact Av Aw (ih n rfl) rfl (fun _ _ h => Bw_dr h) h
theorem Di_lv (n : Nat) : (lv (n + 1)).Di = Di_b (lv n) n := by kernel_rfl
theorem Di_up (x0 : LL) {Q : Bool → Prop} (h : Tot (fun n _ _ => Di_b (lv n) n x0) Q) : Tot (fun n _ _ => (lv n).Di x0) Q := Tot.up (fun n => by rw [Di_lv]) h
theorem Di_ok (n : Nat) : OKo n Di_o := fun ih {_ _ _ _ _ _} h => by
  refine Ay (cl := CL n) (ea := Di_e) (dr := Di_d) (fun _ _ h => Di_ae h) (fun _ _ h => Di_dr h) (fun a v h => ?_) h
  cases n with | zero => cases h | succ n => rw [Di_lv] at h; exact Av Aw (ih n rfl) rfl (fun _ _ h => Di_dr h) h
theorem C3_lv (n : Nat) : (lv (n + 1)).C3 = C3_b (lv n) n := by kernel_rfl
theorem C3_up (xa xb : Bool) (xc : ByteArray) (x1 : Int) {Q : Bool → Prop} (h : Tot (fun n _ _ => C3_b (lv n) n xa xb xc x1) Q) : Tot (fun n _ _ => (lv n).C3 xa xb xc x1) Q := Tot.up (fun n => by rw [C3_lv]) h
theorem C3_ok (n : Nat) : OKo n C3_o := fun ih {_ _ _ _ _ _} h => by
  refine Ay (cl := CL n) (ea := C3_e) (dr := C3_d) (fun _ _ h => C3_ae h) (fun _ _ h => C3_dr h) (fun a v h => ?_) h
  cases n with | zero => cases h | succ n => rw [C3_lv] at h; exact Av Aw (ih n rfl) rfl (fun _ _ h => C3_dr h) h
theorem Dc_lv (n : Nat) : (lv (n + 1)).Dc = Dc_b (lv n) n := by kernel_rfl
theorem Dc_up (xa : Int) (xb xc xd : ByteArray) (xe xh : LL) (xf : Int) (xg xi xl : ByteArray) (xm xn : LL) {Q : Bool → Prop} (h : Tot (fun n _ _ => Dc_b (lv n) n xa xb xc xd xe xh xf xg xi xl xm xn) Q) : Tot (fun n _ _ => (lv n).Dc xa xb xc xd xe xh xf xg xi xl xm xn) Q := Tot.up (fun n => by rw [Dc_lv]) h
theorem Dc_ok (n : Nat) : OKo n Dc_o := fun ih {_ _ _ _ _ _} h => by
  refine Ay (cl := CL n) (ea := Dc_e) (dr := Dc_d) (fun _ _ h => Dc_ae h) (fun _ _ h => Dc_dr h) (fun a v h => ?_) h
  cases n with | zero => cases h | succ n => rw [Dc_lv] at h; exact Av Aw (ih n rfl) rfl (fun _ _ h => Dc_dr h) h
theorem A5_lv (n : Nat) : (lv (n + 1)).A5 = A5_b (lv n) n := by kernel_rfl
theorem A5_up (x0 : LL) {Q : Bool → Prop} (h : Tot (fun n _ _ => A5_b (lv n) n x0) Q) : Tot (fun n _ _ => (lv n).A5 x0) Q := Tot.up (fun n => by rw [A5_lv]) h
theorem A5_ok (n : Nat) : OKo n A5_o := fun ih {_ _ _ _ _ _} h => by
  refine Ay (cl := CL n) (ea := A5_e) (dr := A5_d) (fun _ _ h => A5_ae h) (fun _ _ h => A5_dr h) (fun a v h => ?_) h
  cases n with | zero => cases h | succ n => rw [A5_lv] at h; exact Av Aw (ih n rfl) rfl (fun _ _ h => A5_dr h) h
theorem Dh_lv (n : Nat) : (lv (n + 1)).Dh = Dh_b (lv n) n := by kernel_rfl
theorem Dh_up (xa : Int) (xb xc : ByteArray) (xd : LL) (xe : ByteArray) {Q : Bool → Prop} (h : Tot (fun n _ _ => Dh_b (lv n) n xa xb xc xd xe) Q) : Tot (fun n _ _ => (lv n).Dh xa xb xc xd xe) Q := Tot.up (fun n => by rw [Dh_lv]) h
theorem Dh_ok (n : Nat) : OKo n Dh_o := fun ih {_ _ _ _ _ _} h => by
  refine Ay (cl := CL n) (ea := Dh_e) (dr := Dh_d) (fun _ _ h => Dh_ae h) (fun _ _ h => Dh_dr h) (fun a v h => ?_) h
  cases n with | zero => cases h | succ n => rw [Dh_lv] at h; exact Av Aw (ih n rfl) rfl (fun _ _ h => Dh_dr h) h
theorem C6_lv (n : Nat) : (lv (n + 1)).C6 = C6_b (lv n) n := by kernel_rfl
theorem C6_up (xa xb : ByteArray) {Q : Bool → Prop} (h : Tot (fun n _ _ => C6_b (lv n) n xa xb) Q) : Tot (fun n _ _ => (lv n).C6 xa xb) Q := Tot.up (fun n => by rw [C6_lv]) h
theorem C6_ok (n : Nat) : OKo n C6_o := fun ih {_ _ _ _ _ _} h => by
  refine Ay (cl := CL n) (ea := C6_e) (dr := C6_d) (fun _ _ h => C6_ae h) (fun _ _ h => C6_dr h) (fun a v h => ?_) h
  cases n with | zero => cases h | succ n => rw [C6_lv] at h; exact Av Aw (ih n rfl) rfl (fun _ _ h => C6_dr h) h
theorem Cv_lv (n : Nat) : (lv (n + 1)).Cv = Cv_b (lv n) n := by kernel_rfl
theorem Cv_up (x0 : ByteArray) {Q : Bool → Prop} (h : Tot (fun n _ _ => Cv_b (lv n) n x0) Q) : Tot (fun n _ _ => (lv n).Cv x0) Q := Tot.up (fun n => by rw [Cv_lv]) h
theorem Cv_ok (n : Nat) : OKo n Cv_o := fun ih {_ _ _ _ _ _} h => by
  refine Ay (cl := CL n) (ea := Cv_e) (dr := Cv_d) (fun _ _ h => Cv_ae h) (fun _ _ h => Cv_dr h) (fun a v h => ?_) h
  cases n with | zero => cases h | succ n => rw [Cv_lv] at h; exact Av Aw (ih n rfl) rfl (fun _ _ h => Cv_dr h) h
theorem Br_lv (n : Nat) : (lv (n + 1)).Br = Br_b (lv n) n := by kernel_rfl
theorem Br_up (x0 : ByteArray) {Q : Bool → Prop} (h : Tot (fun n _ _ => Br_b (lv n) n x0) Q) : Tot (fun n _ _ => (lv n).Br x0) Q := Tot.up (fun n => by rw [Br_lv]) h
theorem Br_ok (n : Nat) : OKo n Br_o := fun ih {_ _ _ _ _ _} h => by
  refine Ay (cl := CL n) (ea := Br_e) (dr := Br_d) (fun _ _ h => Br_ae h) (fun _ _ h => Br_dr h) (fun a v h => ?_) h
  cases n with | zero => cases h | succ n => rw [Br_lv] at h; exact Av Aw (ih n rfl) rfl (fun _ _ h => Br_dr h) h
theorem Bl_lv (n : Nat) : (lv (n + 1)).Bl = Bl_b (lv n) n := by kernel_rfl
theorem Bl_up (x0 : ByteArray) {Q : (LL × Int × Int) → Prop} (h : Tot (fun n _ _ => Bl_b (lv n) n x0) Q) : Tot (fun n _ _ => (lv n).Bl x0) Q := Tot.up (fun n => by rw [Bl_lv]) h
theorem Bl_ok (n : Nat) : OKo n Bl_o := fun ih {_ _ _ _ _ _} h => by
  refine Ay (cl := CL n) (ea := Bl_e) (dr := Bl_d) (fun _ _ h => Bl_ae h) (fun _ _ h => Bl_dr h) (fun a v h => ?_) h
  cases n with | zero => cases h | succ n => rw [Bl_lv] at h; exact Av Aw (ih n rfl) rfl (fun _ _ h => Bl_dr h) h
theorem C1_lv (n : Nat) : (lv (n + 1)).C1 = C1_b (lv n) n := by kernel_rfl
theorem C1_up (x0 : Int) {Q : Bool → Prop} (h : Tot (fun n _ _ => C1_b (lv n) n x0) Q) : Tot (fun n _ _ => (lv n).C1 x0) Q := Tot.up (fun n => by rw [C1_lv]) h
theorem C1_ok (n : Nat) : OKo n C1_o := fun ih {_ _ _ _ _ _} h => by
  refine Ay (cl := CL n) (ea := C1_e) (dr := C1_d) (fun _ _ h => C1_ae h) (fun _ _ h => C1_dr h) (fun a v h => ?_) h
  cases n with | zero => cases h | succ n => rw [C1_lv] at h; exact Av Aw (ih n rfl) rfl (fun _ _ h => C1_dr h) h
theorem Ao_lv (n : Nat) : (lv (n + 1)).Ao = Ao_b (lv n) n := by kernel_rfl
theorem Ao_up (x0 : ByteArray) (x1 : Int) {Q : (Int × Int × Int) → Prop} (h : Tot (fun n _ _ => Ao_b (lv n) n x0 x1) Q) : Tot (fun n _ _ => (lv n).Ao x0 x1) Q := Tot.up (fun n => by rw [Ao_lv]) h
theorem Ao_ok (n : Nat) : OKo n Ao_o := fun ih {_ _ _ _ _ _} h => by
  refine Ay (cl := CL n) (ea := Ao_e) (dr := Ao_d) (fun _ _ h => Ao_ae h) (fun _ _ h => Ao_dr h) (fun a v h => ?_) h
  cases n with | zero => cases h | succ n => rw [Ao_lv] at h; exact Av Aw (ih n rfl) rfl (fun _ _ h => Ao_dr h) h
theorem Bq_lv (n : Nat) : (lv (n + 1)).Bq = Bq_b (lv n) n := by kernel_rfl
theorem Bq_up (x0 : Int) (x1 : LL) {Q : Bool → Prop} (h : Tot (fun n _ _ => Bq_b (lv n) n x0 x1) Q) : Tot (fun n _ _ => (lv n).Bq x0 x1) Q := Tot.up (fun n => by rw [Bq_lv]) h
theorem Bq_ok (n : Nat) : OKo n Bq_o := fun ih {_ _ _ _ _ _} h => by
  refine Ay (cl := CL n) (ea := Bq_e) (dr := Bq_d) (fun _ _ h => Bq_ae h) (fun _ _ h => Bq_dr h) (fun a v h => ?_) h
  cases n with | zero => cases h | succ n => rw [Bq_lv] at h; exact Av Aw (ih n rfl) rfl (fun _ _ h => Bq_dr h) h
theorem Df_lv (n : Nat) : (lv (n + 1)).Df = Df_b (lv n) n := by kernel_rfl
theorem Df_up {Q : (Int × Int × Int × Int × Int × Int × Int × Int × Int × Int × Int × Int) → Prop} (h : Tot (fun n _ _ => Df_b (lv n) n) Q) : Tot (fun n _ _ => (lv n).Df) Q := Tot.up (fun n => by rw [Df_lv]) h
theorem Df_ok (n : Nat) : OKo n Df_o := fun ih {_ _ _ _ _ _} h => by
  refine Ay (cl := CL n) (ea := Df_e) (dr := Df_d) (fun _ _ h => Df_ae h) (fun _ _ h => Df_dr h) (fun a v h => ?_) h
  cases n with | zero => cases h | succ n => rw [Df_lv] at h; exact Av Aw (ih n rfl) rfl (fun _ _ h => Df_dr h) h
theorem Bh_lv (n : Nat) : (lv (n + 1)).Bh = Bh_b (lv n) n := by kernel_rfl
theorem Bh_up (x0 : LL) {Q : LL → Prop} (h : Tot (fun n _ _ => Bh_b (lv n) n x0) Q) : Tot (fun n _ _ => (lv n).Bh x0) Q := Tot.up (fun n => by rw [Bh_lv]) h
theorem Bh_ok (n : Nat) : OKo n Bh_o := fun ih {_ _ _ _ _ _} h => by
  refine Ay (cl := CL n) (ea := Bh_e) (dr := Bh_d) (fun _ _ h => Bh_ae h) (fun _ _ h => Bh_dr h) (fun a v h => ?_) h
  cases n with | zero => cases h | succ n => rw [Bh_lv] at h; exact Av Aw (ih n rfl) rfl (fun _ _ h => Bh_dr h) h
theorem Bv_lv (n : Nat) : (lv (n + 1)).Bv = Bv_b (lv n) n := by kernel_rfl
theorem Bv_up (x0 : LL) {Q : Int → Prop} (h : Tot (fun n _ _ => Bv_b (lv n) n x0) Q) : Tot (fun n _ _ => (lv n).Bv x0) Q := Tot.up (fun n => by rw [Bv_lv]) h
theorem Bv_ok (n : Nat) : OKo n Bv_o := fun ih {_ _ _ _ _ _} h => by
  refine Ay (cl := CL n) (ea := Bv_e) (dr := Bv_d) (fun _ _ h => Bv_ae h) (fun _ _ h => Bv_dr h) (fun a v h => ?_) h
  cases n with | zero => cases h | succ n => rw [Bv_lv] at h; exact Av Aw (ih n rfl) rfl (fun _ _ h => Bv_dr h) h
theorem Bd_lv (n : Nat) : (lv (n + 1)).Bd = Bd_b (lv n) n := by kernel_rfl
theorem Bd_up (x0 : ByteArray) {Q : Bool → Prop} (h : Tot (fun n _ _ => Bd_b (lv n) n x0) Q) : Tot (fun n _ _ => (lv n).Bd x0) Q := Tot.up (fun n => by rw [Bd_lv]) h
theorem Bd_ok (n : Nat) : OKo n Bd_o := fun ih {_ _ _ _ _ _} h => by
  refine Ay (cl := CL n) (ea := Bd_e) (dr := Bd_d) (fun _ _ h => Bd_ae h) (fun _ _ h => Bd_dr h) (fun a v h => ?_) h
  cases n with | zero => cases h | succ n => rw [Bd_lv] at h; exact Av Aw (ih n rfl) rfl (fun _ _ h => Bd_dr h) h
theorem Dg_lv (n : Nat) : (lv (n + 1)).Dg = Dg_b (lv n) n := by kernel_rfl
theorem Dg_up (x0 x1 : Int) {Q : (Int × Int) → Prop} (h : Tot (fun n _ _ => Dg_b (lv n) n x0 x1) Q) : Tot (fun n _ _ => (lv n).Dg x0 x1) Q := Tot.up (fun n => by rw [Dg_lv]) h
theorem Dg_ok (n : Nat) : OKo n Dg_o := fun ih {_ _ _ _ _ _} h => by
  refine Ay (cl := CL n) (ea := Dg_e) (dr := Dg_d) (fun _ _ h => Dg_ae h) (fun _ _ h => Dg_dr h) (fun a v h => ?_) h
  cases n with | zero => cases h | succ n => rw [Dg_lv] at h; exact Av Aw (ih n rfl) rfl (fun _ _ h => Dg_dr h) h
theorem C8_lv (n : Nat) : (lv (n + 1)).C8 = C8_b (lv n) n := by kernel_rfl
theorem C8_up (x0 : Int) {Q : Bool → Prop} (h : Tot (fun n _ _ => C8_b (lv n) n x0) Q) : Tot (fun n _ _ => (lv n).C8 x0) Q := Tot.up (fun n => by rw [C8_lv]) h
theorem C8_ok (n : Nat) : OKo n C8_o := fun ih {_ _ _ _ _ _} h => by
  refine Ay (cl := CL n) (ea := C8_e) (dr := C8_d) (fun _ _ h => C8_ae h) (fun _ _ h => C8_dr h) (fun a v h => ?_) h
  cases n with | zero => cases h | succ n => rw [C8_lv] at h; exact Av Aw (ih n rfl) rfl (fun _ _ h => C8_dr h) h
theorem C7_lv (n : Nat) : (lv (n + 1)).C7 = C7_b (lv n) n := by kernel_rfl
theorem C7_up (x0 : Int) {Q : Bool → Prop} (h : Tot (fun n _ _ => C7_b (lv n) n x0) Q) : Tot (fun n _ _ => (lv n).C7 x0) Q := Tot.up (fun n => by rw [C7_lv]) h
theorem C7_ok (n : Nat) : OKo n C7_o := fun ih {_ _ _ _ _ _} h => by
  refine Ay (cl := CL n) (ea := C7_e) (dr := C7_d) (fun _ _ h => C7_ae h) (fun _ _ h => C7_dr h) (fun a v h => ?_) h
  cases n with | zero => cases h | succ n => rw [C7_lv] at h; exact Av Aw (ih n rfl) rfl (fun _ _ h => C7_dr h) h
theorem Cw_lv (n : Nat) : (lv (n + 1)).Cw = Cw_b (lv n) n := by kernel_rfl
theorem Cw_ok (n : Nat) : OKo n Cw_o := fun ih {_ _ _ _ _ _} h => by
  refine Ay (cl := CL n) (ea := Cw_e) (dr := Cw_d) (fun _ _ h => Cw_ae h) (fun _ _ h => Cw_dr h) (fun a v h => ?_) h
  cases n with | zero => cases h | succ n => rw [Cw_lv] at h; exact Av Aw (ih n rfl) rfl (fun _ _ h => Cw_dr h) h
theorem B5_lv (n : Nat) : (lv (n + 1)).B5 = B5_b (lv n) n := by kernel_rfl
theorem B5_up (x0 : LL) {Q : Bool → Prop} (h : Tot (fun n _ _ => B5_b (lv n) n x0) Q) : Tot (fun n _ _ => (lv n).B5 x0) Q := Tot.up (fun n => by rw [B5_lv]) h
theorem B5_ok (n : Nat) : OKo n B5_o := fun ih {_ _ _ _ _ _} h => by
  refine Ay (cl := CL n) (ea := B5_e) (dr := B5_d) (fun _ _ h => B5_ae h) (fun _ _ h => B5_dr h) (fun a v h => ?_) h
  cases n with | zero => cases h | succ n => rw [B5_lv] at h; exact Av Aw (ih n rfl) rfl (fun _ _ h => B5_dr h) h
theorem C0_lv (n : Nat) : (lv (n + 1)).C0 = C0_b (lv n) n := by kernel_rfl
theorem C0_up (x0 : Int) {Q : Bool → Prop} (h : Tot (fun n _ _ => C0_b (lv n) n x0) Q) : Tot (fun n _ _ => (lv n).C0 x0) Q := Tot.up (fun n => by rw [C0_lv]) h
theorem C0_ok (n : Nat) : OKo n C0_o := fun ih {_ _ _ _ _ _} h => by
  refine Ay (cl := CL n) (ea := C0_e) (dr := C0_d) (fun _ _ h => C0_ae h) (fun _ _ h => C0_dr h) (fun a v h => ?_) h
  cases n with | zero => cases h | succ n => rw [C0_lv] at h; exact Av Aw (ih n rfl) rfl (fun _ _ h => C0_dr h) h
theorem Da_lv (n : Nat) : (lv (n + 1)).Da = Da_b (lv n) n := by kernel_rfl
theorem Da_up (xa : Int) (xb xc : LL) {Q : Bool → Prop} (h : Tot (fun n _ _ => Da_b (lv n) n xa xb xc) Q) : Tot (fun n _ _ => (lv n).Da xa xb xc) Q := Tot.up (fun n => by rw [Da_lv]) h
theorem Da_ok (n : Nat) : OKo n Da_o := fun ih {_ _ _ _ _ _} h => by
  refine Ay (cl := CL n) (ea := Da_e) (dr := Da_d) (fun _ _ h => Da_ae h) (fun _ _ h => Da_dr h) (fun a v h => ?_) h
  cases n with | zero => cases h | succ n => rw [Da_lv] at h; exact Av Aw (ih n rfl) rfl (fun _ _ h => Da_dr h) h
theorem Dk_lv (n : Nat) : (lv (n + 1)).Dk = Dk_b (lv n) n := by kernel_rfl
theorem Dk_up (xa : Int) (xb xc : LL) {Q : Int → Prop} (h : Tot (fun n _ _ => Dk_b (lv n) n xa xb xc) Q) : Tot (fun n _ _ => (lv n).Dk xa xb xc) Q := Tot.up (fun n => by rw [Dk_lv]) h
theorem Dk_ok (n : Nat) : OKo n Dk_o := fun ih {_ _ _ _ _ _} h => by
  refine Ay (cl := CL n) (ea := Dk_e) (dr := Dk_d) (fun _ _ h => Dk_ae h) (fun _ _ h => Dk_dr h) (fun a v h => ?_) h
  cases n with | zero => cases h | succ n => rw [Dk_lv] at h; exact Av Aw (ih n rfl) rfl (fun _ _ h => Dk_dr h) h
theorem Bb_lv (n : Nat) : (lv (n + 1)).Bb = Bb_b (lv n) n := by kernel_rfl
theorem Bb_up (xa : Int) (xb xc : LL) (x1 : Int) {Q : Int → Prop} (h : Tot (fun n _ _ => Bb_b (lv n) n xa xb xc x1) Q) : Tot (fun n _ _ => (lv n).Bb xa xb xc x1) Q := Tot.up (fun n => by rw [Bb_lv]) h
theorem Bb_ok (n : Nat) : OKo n Bb_o := fun ih {_ _ _ _ _ _} h => by
  refine Ay (cl := CL n) (ea := Bb_e) (dr := Bb_d) (fun _ _ h => Bb_ae h) (fun _ _ h => Bb_dr h) (fun a v h => ?_) h
  cases n with | zero => cases h | succ n => rw [Bb_lv] at h; exact Av Aw (ih n rfl) rfl (fun _ _ h => Bb_dr h) h
theorem Bg_lv (n : Nat) : (lv (n + 1)).Bg = Bg_b (lv n) n := by kernel_rfl
theorem Bg_up (xa : Int) (xb xc xd : ByteArray) (xe xh : LL) (x1 : Int) {Q : Int → Prop} (h : Tot (fun n _ _ => Bg_b (lv n) n xa xb xc xd xe xh x1) Q) : Tot (fun n _ _ => (lv n).Bg xa xb xc xd xe xh x1) Q := Tot.up (fun n => by rw [Bg_lv]) h
theorem Bg_ok (n : Nat) : OKo n Bg_o := fun ih {_ _ _ _ _ _} h => by
  refine Ay (cl := CL n) (ea := Bg_e) (dr := Bg_d) (fun _ _ h => Bg_ae h) (fun _ _ h => Bg_dr h) (fun a v h => ?_) h
  cases n with | zero => cases h | succ n => rw [Bg_lv] at h; exact Av Aw (ih n rfl) rfl (fun _ _ h => Bg_dr h) h
theorem A8_lv (n : Nat) : (lv (n + 1)).A8 = A8_b (lv n) n := by kernel_rfl
theorem A8_up (xa : Int) (xb xc : LL) (x1 : Int) {Q : Bool → Prop} (h : Tot (fun n _ _ => A8_b (lv n) n xa xb xc x1) Q) : Tot (fun n _ _ => (lv n).A8 xa xb xc x1) Q := Tot.up (fun n => by rw [A8_lv]) h
theorem A8_ok (n : Nat) : OKo n A8_o := fun ih {_ _ _ _ _ _} h => by
  refine Ay (cl := CL n) (ea := A8_e) (dr := A8_d) (fun _ _ h => A8_ae h) (fun _ _ h => A8_dr h) (fun a v h => ?_) h
  cases n with | zero => cases h | succ n => rw [A8_lv] at h; exact Av Aw (ih n rfl) rfl (fun _ _ h => A8_dr h) h
theorem Aj_lv (n : Nat) : (lv (n + 1)).Aj = Aj_b (lv n) n := by kernel_rfl
theorem Aj_up (xa : Int) (xb xc xd : ByteArray) (xe xh : LL) (x1 : Int) {Q : Bool → Prop} (h : Tot (fun n _ _ => Aj_b (lv n) n xa xb xc xd xe xh x1) Q) : Tot (fun n _ _ => (lv n).Aj xa xb xc xd xe xh x1) Q := Tot.up (fun n => by rw [Aj_lv]) h
theorem Aj_ok (n : Nat) : OKo n Aj_o := fun ih {_ _ _ _ _ _} h => by
  refine Ay (cl := CL n) (ea := Aj_e) (dr := Aj_d) (fun _ _ h => Aj_ae h) (fun _ _ h => Aj_dr h) (fun a v h => ?_) h
  cases n with | zero => cases h | succ n => rw [Aj_lv] at h; exact Av Aw (ih n rfl) rfl (fun _ _ h => Aj_dr h) h
theorem Db_lv (n : Nat) : (lv (n + 1)).Db = Db_b (lv n) n := by kernel_rfl
theorem Db_up (xa xb : ByteArray) {Q : Bool → Prop} (h : Tot (fun n _ _ => Db_b (lv n) n xa xb) Q) : Tot (fun n _ _ => (lv n).Db xa xb) Q := Tot.up (fun n => by rw [Db_lv]) h
theorem Db_ok (n : Nat) : OKo n Db_o := fun ih {_ _ _ _ _ _} h => by
  refine Ay (cl := CL n) (ea := Db_e) (dr := Db_d) (fun _ _ h => Db_ae h) (fun _ _ h => Db_dr h) (fun a v h => ?_) h
  cases n with | zero => cases h | succ n => rw [Db_lv] at h; exact Av Aw (ih n rfl) rfl (fun _ _ h => Db_dr h) h
theorem A9_lv (n : Nat) : (lv (n + 1)).A9 = A9_b (lv n) n := by kernel_rfl
theorem A9_up (x0 : ByteArray) {Q : Bool → Prop} (h : Tot (fun n _ _ => A9_b (lv n) n x0) Q) : Tot (fun n _ _ => (lv n).A9 x0) Q := Tot.up (fun n => by rw [A9_lv]) h
theorem A9_ok (n : Nat) : OKo n A9_o := fun ih {_ _ _ _ _ _} h => by
  refine Ay (cl := CL n) (ea := A9_e) (dr := A9_d) (fun _ _ h => A9_ae h) (fun _ _ h => A9_dr h) (fun a v h => ?_) h
  cases n with | zero => cases h | succ n => rw [A9_lv] at h; exact Av Aw (ih n rfl) rfl (fun _ _ h => A9_dr h) h
theorem Bm_lv (n : Nat) : (lv (n + 1)).Bm = Bm_b (lv n) n := by kernel_rfl
theorem Bm_up (x0 : ByteArray) {Q : Bool → Prop} (h : Tot (fun n _ _ => Bm_b (lv n) n x0) Q) : Tot (fun n _ _ => (lv n).Bm x0) Q := Tot.up (fun n => by rw [Bm_lv]) h
theorem Bm_ok (n : Nat) : OKo n Bm_o := fun ih {_ _ _ _ _ _} h => by
  refine Ay (cl := CL n) (ea := Bm_e) (dr := Bm_d) (fun _ _ h => Bm_ae h) (fun _ _ h => Bm_dr h) (fun a v h => ?_) h
  cases n with | zero => cases h | succ n => rw [Bm_lv] at h; exact Av Aw (ih n rfl) rfl (fun _ _ h => Bm_dr h) h
theorem A6_lv (n : Nat) : (lv (n + 1)).A6 = A6_b (lv n) n := by kernel_rfl
theorem A6_up (x0 : ByteArray) {Q : (LL × Int × Int) → Prop} (h : Tot (fun n _ _ => A6_b (lv n) n x0) Q) : Tot (fun n _ _ => (lv n).A6 x0) Q := Tot.up (fun n => by rw [A6_lv]) h
theorem A6_ok (n : Nat) : OKo n A6_o := fun ih {_ _ _ _ _ _} h => by
  refine Ay (cl := CL n) (ea := A6_e) (dr := A6_d) (fun _ _ h => A6_ae h) (fun _ _ h => A6_dr h) (fun a v h => ?_) h
  cases n with | zero => cases h | succ n => rw [A6_lv] at h; exact Av Aw (ih n rfl) rfl (fun _ _ h => A6_dr h) h
theorem Cj_lv (n : Nat) : (lv (n + 1)).Cj = Cj_b (lv n) n := by kernel_rfl
theorem Cj_up (x0 : Int) {Q : Bool → Prop} (h : Tot (fun n _ _ => Cj_b (lv n) n x0) Q) : Tot (fun n _ _ => (lv n).Cj x0) Q := Tot.up (fun n => by rw [Cj_lv]) h
theorem Cj_ok (n : Nat) : OKo n Cj_o := fun ih {_ _ _ _ _ _} h => by
  refine Ay (cl := CL n) (ea := Cj_e) (dr := Cj_d) (fun _ _ h => Cj_ae h) (fun _ _ h => Cj_dr h) (fun a v h => ?_) h
  cases n with | zero => cases h | succ n => rw [Cj_lv] at h; exact Av Aw (ih n rfl) rfl (fun _ _ h => Cj_dr h) h
theorem A7_lv (n : Nat) : (lv (n + 1)).A7 = A7_b (lv n) n := by kernel_rfl
theorem A7_up (x0 : ByteArray) (x1 : Int) {Q : (Int × Int × Int) → Prop} (h : Tot (fun n _ _ => A7_b (lv n) n x0 x1) Q) : Tot (fun n _ _ => (lv n).A7 x0 x1) Q := Tot.up (fun n => by rw [A7_lv]) h
theorem A7_ok (n : Nat) : OKo n A7_o := fun ih {_ _ _ _ _ _} h => by
  refine Ay (cl := CL n) (ea := A7_e) (dr := A7_d) (fun _ _ h => A7_ae h) (fun _ _ h => A7_dr h) (fun a v h => ?_) h
  cases n with | zero => cases h | succ n => rw [A7_lv] at h; exact Av Aw (ih n rfl) rfl (fun _ _ h => A7_dr h) h
theorem Cb_lv (n : Nat) : (lv (n + 1)).Cb = Cb_b (lv n) n := by kernel_rfl
theorem Cb_up (x0 : Int) {Q : LL → Prop} (h : Tot (fun n _ _ => Cb_b (lv n) n x0) Q) : Tot (fun n _ _ => (lv n).Cb x0) Q := Tot.up (fun n => by rw [Cb_lv]) h
theorem Cb_ok (n : Nat) : OKo n Cb_o := fun ih {_ _ _ _ _ _} h => by
  refine Ay (cl := CL n) (ea := Cb_e) (dr := Cb_d) (fun _ _ h => Cb_ae h) (fun _ _ h => Cb_dr h) (fun a v h => ?_) h
  cases n with | zero => cases h | succ n => rw [Cb_lv] at h; exact Av Aw (ih n rfl) rfl (fun _ _ h => Cb_dr h) h
theorem Ae_lv (n : Nat) : (lv (n + 1)).Ae = Ae_b (lv n) n := by kernel_rfl
theorem Ae_up (x0 : ByteArray) (x1 : Int) {Q : Bool → Prop} (h : Tot (fun n _ _ => Ae_b (lv n) n x0 x1) Q) : Tot (fun n _ _ => (lv n).Ae x0 x1) Q := Tot.up (fun n => by rw [Ae_lv]) h
theorem Ae_ok (n : Nat) : OKo n Ae_o := fun ih {_ _ _ _ _ _} h => by
  refine Ay (cl := CL n) (ea := Ae_e) (dr := Ae_d) (fun _ _ h => Ae_ae h) (fun _ _ h => Ae_dr h) (fun a v h => ?_) h
  cases n with | zero => cases h | succ n => rw [Ae_lv] at h; exact Av Aw (ih n rfl) rfl (fun _ _ h => Ae_dr h) h
theorem An_lv (n : Nat) : (lv (n + 1)).An = An_b (lv n) n := by kernel_rfl
theorem An_up (x0 : ByteArray) (x1 x2 : Int) {Q : Int → Prop} (h : Tot (fun n _ _ => An_b (lv n) n x0 x1 x2) Q) : Tot (fun n _ _ => (lv n).An x0 x1 x2) Q := Tot.up (fun n => by rw [An_lv]) h
theorem An_ok (n : Nat) : OKo n An_o := fun ih {_ _ _ _ _ _} h => by
  refine Ay (cl := CL n) (ea := An_e) (dr := An_d) (fun _ _ h => An_ae h) (fun _ _ h => An_dr h) (fun a v h => ?_) h
  cases n with | zero => cases h | succ n => rw [An_lv] at h; exact Av Aw (ih n rfl) rfl (fun _ _ h => An_dr h) h
theorem Be_lv (n : Nat) : (lv (n + 1)).Be = Be_b (lv n) n := by kernel_rfl
theorem Be_up (x0 : LL) {Q : Bool → Prop} (h : Tot (fun n _ _ => Be_b (lv n) n x0) Q) : Tot (fun n _ _ => (lv n).Be x0) Q := Tot.up (fun n => by rw [Be_lv]) h
theorem Be_ok (n : Nat) : OKo n Be_o := fun ih {_ _ _ _ _ _} h => by
  refine Ay (cl := CL n) (ea := Be_e) (dr := Be_d) (fun _ _ h => Be_ae h) (fun _ _ h => Be_dr h) (fun a v h => ?_) h
  cases n with | zero => cases h | succ n => rw [Be_lv] at h; exact Av Aw (ih n rfl) rfl (fun _ _ h => Be_dr h) h
theorem Cq_lv (n : Nat) : (lv (n + 1)).Cq = Cq_b (lv n) n := by kernel_rfl
theorem Cq_up (x0 : Int) {Q : Bool → Prop} (h : Tot (fun n _ _ => Cq_b (lv n) n x0) Q) : Tot (fun n _ _ => (lv n).Cq x0) Q := Tot.up (fun n => by rw [Cq_lv]) h
theorem Cq_ok (n : Nat) : OKo n Cq_o := fun ih {_ _ _ _ _ _} h => by
  refine Ay (cl := CL n) (ea := Cq_e) (dr := Cq_d) (fun _ _ h => Cq_ae h) (fun _ _ h => Cq_dr h) (fun a v h => ?_) h
  cases n with | zero => cases h | succ n => rw [Cq_lv] at h; exact Av Aw (ih n rfl) rfl (fun _ _ h => Cq_dr h) h
theorem Cr_lv (n : Nat) : (lv (n + 1)).Cr = Cr_b (lv n) n := by kernel_rfl
theorem Cr_up (x0 : Int) {Q : Bool → Prop} (h : Tot (fun n _ _ => Cr_b (lv n) n x0) Q) : Tot (fun n _ _ => (lv n).Cr x0) Q := Tot.up (fun n => by rw [Cr_lv]) h
theorem Cr_ok (n : Nat) : OKo n Cr_o := fun ih {_ _ _ _ _ _} h => by
  refine Ay (cl := CL n) (ea := Cr_e) (dr := Cr_d) (fun _ _ h => Cr_ae h) (fun _ _ h => Cr_dr h) (fun a v h => ?_) h
  cases n with | zero => cases h | succ n => rw [Cr_lv] at h; exact Av Aw (ih n rfl) rfl (fun _ _ h => Cr_dr h) h
theorem Bi_lv (n : Nat) : (lv (n + 1)).Bi = Bi_b (lv n) n := by kernel_rfl
theorem Bi_up (x0 : ByteArray) (x1 : Int) (x2 : LL) {Q : Bool → Prop} (h : Tot (fun n _ _ => Bi_b (lv n) n x0 x1 x2) Q) : Tot (fun n _ _ => (lv n).Bi x0 x1 x2) Q := Tot.up (fun n => by rw [Bi_lv]) h
theorem Bi_ok (n : Nat) : OKo n Bi_o := fun ih {_ _ _ _ _ _} h => by
  refine Ay (cl := CL n) (ea := Bi_e) (dr := Bi_d) (fun _ _ h => Bi_ae h) (fun _ _ h => Bi_dr h) (fun a v h => ?_) h
  cases n with | zero => cases h | succ n => rw [Bi_lv] at h; exact Av Aw (ih n rfl) rfl (fun _ _ h => Bi_dr h) h
theorem Cp_lv (n : Nat) : (lv (n + 1)).Cp = Cp_b (lv n) n := by kernel_rfl
theorem Cp_up (x0 : Int) {Q : Bool → Prop} (h : Tot (fun n _ _ => Cp_b (lv n) n x0) Q) : Tot (fun n _ _ => (lv n).Cp x0) Q := Tot.up (fun n => by rw [Cp_lv]) h
theorem Cp_ok (n : Nat) : OKo n Cp_o := fun ih {_ _ _ _ _ _} h => by
  refine Ay (cl := CL n) (ea := Cp_e) (dr := Cp_d) (fun _ _ h => Cp_ae h) (fun _ _ h => Cp_dr h) (fun a v h => ?_) h
  cases n with | zero => cases h | succ n => rw [Cp_lv] at h; exact Av Aw (ih n rfl) rfl (fun _ _ h => Cp_dr h) h
theorem C9_lv (n : Nat) : (lv (n + 1)).C9 = C9_b (lv n) n := by kernel_rfl
theorem C9_up (x0 : LL) {Q : Bool → Prop} (h : Tot (fun n _ _ => C9_b (lv n) n x0) Q) : Tot (fun n _ _ => (lv n).C9 x0) Q := Tot.up (fun n => by rw [C9_lv]) h
theorem C9_ok (n : Nat) : OKo n C9_o := fun ih {_ _ _ _ _ _} h => by
  refine Ay (cl := CL n) (ea := C9_e) (dr := C9_d) (fun _ _ h => C9_ae h) (fun _ _ h => C9_dr h) (fun a v h => ?_) h
  cases n with | zero => cases h | succ n => rw [C9_lv] at h; exact Av Aw (ih n rfl) rfl (fun _ _ h => C9_dr h) h
theorem By_lv (n : Nat) : (lv (n + 1)).By = By_b (lv n) n := by kernel_rfl
theorem By_up (x0 : ByteArray) (x1 : Int) (x2 : ByteArray) {Q : Int → Prop} (h : Tot (fun n _ _ => By_b (lv n) n x0 x1 x2) Q) : Tot (fun n _ _ => (lv n).By x0 x1 x2) Q := Tot.up (fun n => by rw [By_lv]) h
theorem By_ok (n : Nat) : OKo n By_o := fun ih {_ _ _ _ _ _} h => by
  refine Ay (cl := CL n) (ea := By_e) (dr := By_d) (fun _ _ h => By_ae h) (fun _ _ h => By_dr h) (fun a v h => ?_) h
  cases n with | zero => cases h | succ n => rw [By_lv] at h; exact Av Aw (ih n rfl) rfl (fun _ _ h => By_dr h) h
theorem Az_lv (n : Nat) : (lv (n + 1)).Az = Az_b (lv n) n := by kernel_rfl
theorem Az_up (x0 : LL) {Q : Int → Prop} (h : Tot (fun n _ _ => Az_b (lv n) n x0) Q) : Tot (fun n _ _ => (lv n).Az x0) Q := Tot.up (fun n => by rw [Az_lv]) h
theorem Az_ok (n : Nat) : OKo n Az_o := fun ih {_ _ _ _ _ _} h => by
  refine Ay (cl := CL n) (ea := Az_e) (dr := Az_d) (fun _ _ h => Az_ae h) (fun _ _ h => Az_dr h) (fun a v h => ?_) h
  cases n with | zero => cases h | succ n => rw [Az_lv] at h; exact Av Aw (ih n rfl) rfl (fun _ _ h => Az_dr h) h
theorem A4_lv (n : Nat) : (lv (n + 1)).A4 = A4_b (lv n) n := by kernel_rfl
theorem A4_up (xa : Int) (xb xc : ByteArray) (xd : LL) (xe : ByteArray) {Q : Bool → Prop} (h : Tot (fun n _ _ => A4_b (lv n) n xa xb xc xd xe) Q) : Tot (fun n _ _ => (lv n).A4 xa xb xc xd xe) Q := Tot.up (fun n => by rw [A4_lv]) h
theorem A4_ok (n : Nat) : OKo n A4_o := fun ih {_ _ _ _ _ _} h => by
  refine Ay (cl := CL n) (ea := A4_e) (dr := A4_d) (fun _ _ h => A4_ae h) (fun _ _ h => A4_dr h) (fun a v h => ?_) h
  cases n with | zero => cases h | succ n => rw [A4_lv] at h; exact Av Aw (ih n rfl) rfl (fun _ _ h => A4_dr h) h
theorem C5_lv (n : Nat) : (lv (n + 1)).C5 = C5_b (lv n) n := by kernel_rfl
theorem C5_up (xa xb : ByteArray) {Q : Bool → Prop} (h : Tot (fun n _ _ => C5_b (lv n) n xa xb) Q) : Tot (fun n _ _ => (lv n).C5 xa xb) Q := Tot.up (fun n => by rw [C5_lv]) h
theorem C5_ok (n : Nat) : OKo n C5_o := fun ih {_ _ _ _ _ _} h => by
  refine Ay (cl := CL n) (ea := C5_e) (dr := C5_d) (fun _ _ h => C5_ae h) (fun _ _ h => C5_dr h) (fun a v h => ?_) h
  cases n with | zero => cases h | succ n => rw [C5_lv] at h; exact Av Aw (ih n rfl) rfl (fun _ _ h => C5_dr h) h
theorem Ct_lv (n : Nat) : (lv (n + 1)).Ct = Ct_b (lv n) n := by kernel_rfl
theorem Ct_up (xa xb xc : LL) (xd xe xh : Int) (xj xk x1 : LL) (x2 : Int) {Q : (Bool × Bool × ByteArray) → Prop} (h : Tot (fun n _ _ => Ct_b (lv n) n xa xb xc xd xe xh xj xk x1 x2) Q) : Tot (fun n _ _ => (lv n).Ct xa xb xc xd xe xh xj xk x1 x2) Q := Tot.up (fun n => by rw [Ct_lv]) h
theorem Ct_ok (n : Nat) : OKo n Ct_o := fun ih {_ _ _ _ _ _} h => by
  refine Ay (cl := CL n) (ea := Ct_e) (dr := Ct_d) (fun _ _ h => Ct_ae h) (fun _ _ h => Ct_dr h) (fun a v h => ?_) h
  cases n with | zero => cases h | succ n => rw [Ct_lv] at h; exact Av Aw (ih n rfl) rfl (fun _ _ h => Ct_dr h) h
theorem Bp_lv (n : Nat) : (lv (n + 1)).Bp = Bp_b (lv n) n := by kernel_rfl
theorem Bp_up (x0 : LL) (x1 : Int) {Q : Int → Prop} (h : Tot (fun n _ _ => Bp_b (lv n) n x0 x1) Q) : Tot (fun n _ _ => (lv n).Bp x0 x1) Q := Tot.up (fun n => by rw [Bp_lv]) h
theorem Bp_ok (n : Nat) : OKo n Bp_o := fun ih {_ _ _ _ _ _} h => by
  refine Ay (cl := CL n) (ea := Bp_e) (dr := Bp_d) (fun _ _ h => Bp_ae h) (fun _ _ h => Bp_dr h) (fun a v h => ?_) h
  cases n with | zero => cases h | succ n => rw [Bp_lv] at h; exact Av Aw (ih n rfl) rfl (fun _ _ h => Bp_dr h) h
theorem Ad_lv (n : Nat) : (lv (n + 1)).Ad = Ad_b (lv n) n := by kernel_rfl
theorem Ad_up (xa xb xc : LL) (xd xe xh : Int) (xj xk : LL) (xf : Int) (xg xi : ByteArray) (xl : LL) (xm : ByteArray) (yc yd : Bool) (ye : ByteArray) (yn yo : Bool) (yp : ByteArray) {Q : (Bool × Bool × ByteArray) → Prop} (h : Tot (fun n _ _ => Ad_b (lv n) n xa xb xc xd xe xh xj xk xf xg xi xl xm yc yd ye yn yo yp) Q) : Tot (fun n _ _ => (lv n).Ad xa xb xc xd xe xh xj xk xf xg xi xl xm yc yd ye yn yo yp) Q := Tot.up (fun n => by rw [Ad_lv]) h
theorem Ad_ok (n : Nat) : OKo n Ad_o := fun ih {_ _ _ _ _ _} h => by
  refine Ay (cl := CL n) (ea := Ad_e) (dr := Ad_d) (fun _ _ h => Ad_ae h) (fun _ _ h => Ad_dr h) (fun a v h => ?_) h
  cases n with | zero => cases h | succ n => rw [Ad_lv] at h; exact Av Aw (ih n rfl) rfl (fun _ _ h => Ad_dr h) h
theorem B3_lv (n : Nat) : (lv (n + 1)).B3 = B3_b (lv n) n := by kernel_rfl
theorem B3_up (xa xb xc : LL) (xd xe xh : Int) (xj xk : LL) {Q : Int → Prop} (h : Tot (fun n _ _ => B3_b (lv n) n xa xb xc xd xe xh xj xk) Q) : Tot (fun n _ _ => (lv n).B3 xa xb xc xd xe xh xj xk) Q := Tot.up (fun n => by rw [B3_lv]) h
theorem B3_ok (n : Nat) : OKo n B3_o := fun ih {_ _ _ _ _ _} h => by
  refine Ay (cl := CL n) (ea := B3_e) (dr := B3_d) (fun _ _ h => B3_ae h) (fun _ _ h => B3_dr h) (fun a v h => ?_) h
  cases n with | zero => cases h | succ n => rw [B3_lv] at h; exact Av Aw (ih n rfl) rfl (fun _ _ h => B3_dr h) h
theorem A0_lv (n : Nat) : (lv (n + 1)).A0 = A0_b (lv n) n := by kernel_rfl
theorem A0_up (xa xb xc : LL) (xd xe xh : Int) (xj xk : LL) (xf : Int) (xg xi xl : ByteArray) (xm xn : LL) (yc : Int) (yd ye : ByteArray) (yf : LL) (ym : ByteArray) (x3 : LL) {Q : Bool → Prop} (h : Tot (fun n _ _ => A0_b (lv n) n xa xb xc xd xe xh xj xk xf xg xi xl xm xn yc yd ye yf ym x3) Q) : Tot (fun n _ _ => (lv n).A0 xa xb xc xd xe xh xj xk xf xg xi xl xm xn yc yd ye yf ym x3) Q := Tot.up (fun n => by rw [A0_lv]) h
theorem A0_ok (n : Nat) : OKo n A0_o := fun ih {_ _ _ _ _ _} h => by
  refine Ay (cl := CL n) (ea := A0_e) (dr := A0_d) (fun _ _ h => A0_ae h) (fun _ _ h => A0_dr h) (fun a v h => ?_) h
  cases n with | zero => cases h | succ n => rw [A0_lv] at h; exact Av Aw (ih n rfl) rfl (fun _ _ h => A0_dr h) h
theorem Ax_lv (n : Nat) : (lv (n + 1)).Ax = Ax_b (lv n) n := by kernel_rfl
theorem Ax_up (xa xb xc : Int) (xd xe x1 x2 : LL) {Q : LL → Prop} (h : Tot (fun n _ _ => Ax_b (lv n) n xa xb xc xd xe x1 x2) Q) : Tot (fun n _ _ => (lv n).Ax xa xb xc xd xe x1 x2) Q := Tot.up (fun n => by rw [Ax_lv]) h
theorem Ax_ok (n : Nat) : OKo n Ax_o := fun ih {_ _ _ _ _ _} h => by
  refine Ay (cl := CL n) (ea := Ax_e) (dr := Ax_d) (fun _ _ h => Ax_ae h) (fun _ _ h => Ax_dr h) (fun a v h => ?_) h
  cases n with | zero => cases h | succ n => rw [Ax_lv] at h; exact Av Aw (ih n rfl) rfl (fun _ _ h => Ax_dr h) h
theorem Cf_lv (n : Nat) : (lv (n + 1)).Cf = Cf_b (lv n) n := by kernel_rfl
theorem Cf_up (xa xb : Bool) (xc : ByteArray) (x1 : Int) {Q : Bool → Prop} (h : Tot (fun n _ _ => Cf_b (lv n) n xa xb xc x1) Q) : Tot (fun n _ _ => (lv n).Cf xa xb xc x1) Q := Tot.up (fun n => by rw [Cf_lv]) h
theorem Cf_ok (n : Nat) : OKo n Cf_o := fun ih {_ _ _ _ _ _} h => by
  refine Ay (cl := CL n) (ea := Cf_e) (dr := Cf_d) (fun _ _ h => Cf_ae h) (fun _ _ h => Cf_dr h) (fun a v h => ?_) h
  cases n with | zero => cases h | succ n => rw [Cf_lv] at h; exact Av Aw (ih n rfl) rfl (fun _ _ h => Cf_dr h) h
theorem Ya : ∀ n, ∀ {Ω : Type}, F4 (Ω := Ω) (call Try.prog Jl kp n) (orK (lv n)) := by
  intro n
  induction n with
  | zero =>
    intro Ω f l K r h
    have ih : ∀ m, 0 = m + 1 → ∀ {Ω : Type}, F4 (Ω := Ω) (call Try.prog Jl kp m) (orK (lv m)) := fun m e => by cases e
    rcases Bn_ok _ ih h with h | h
    · exact h
    rcases Dn_ok _ ih h with h | h
    · exact h
    rcases Bj_ok _ ih h with h | h
    · exact h
    rcases Cs_ok _ ih h with h | h
    · exact h
    rcases Ah_ok _ ih h with h | h
    · exact h
    rcases Cc_ok _ ih h with h | h
    · exact h
    rcases Ar_ok _ ih h with h | h
    · exact h
    rcases Bc_ok _ ih h with h | h
    · exact h
    rcases Bs_ok _ ih h with h | h
    · exact h
    rcases Ba_ok _ ih h with h | h
    · exact h
    rcases Bf_ok _ ih h with h | h
    · exact h
    rcases Bu_ok _ ih h with h | h
    · exact h
    rcases B4_ok _ ih h with h | h
    · exact h
    rcases Ap_ok _ ih h with h | h
    · exact h
    rcases Bk_ok _ ih h with h | h
    · exact h
    rcases Cy_ok _ ih h with h | h
    · exact h
    rcases Bz_ok _ ih h with h | h
    · exact h
    rcases Cm_ok _ ih h with h | h
    · exact h
    rcases Cn_ok _ ih h with h | h
    · exact h
    rcases Co_ok _ ih h with h | h
    · exact h
    rcases B6_ok _ ih h with h | h
    · exact h
    rcases B7_ok _ ih h with h | h
    · exact h
    rcases B8_ok _ ih h with h | h
    · exact h
    rcases Dm_ok _ ih h with h | h
    · exact h
    rcases Cz_ok _ ih h with h | h
    · exact h
    rcases De_ok _ ih h with h | h
    · exact h
    rcases B0_ok _ ih h with h | h
    · exact h
    rcases Dd_ok _ ih h with h | h
    · exact h
    rcases B9_ok _ ih h with h | h
    · exact h
    rcases Dl_ok _ ih h with h | h
    · exact h
    rcases Cx_ok _ ih h with h | h
    · exact h
    rcases Bx_ok _ ih h with h | h
    · exact h
    rcases Au_ok _ ih h with h | h
    · exact h
    rcases C4_ok _ ih h with h | h
    · exact h
    rcases Bw_ok _ ih h with h | h
    · exact h
    rcases Di_ok _ ih h with h | h
    · exact h
    rcases C3_ok _ ih h with h | h
    · exact h
    rcases Dc_ok _ ih h with h | h
    · exact h
    rcases A5_ok _ ih h with h | h
    · exact h
    rcases Dh_ok _ ih h with h | h
    · exact h
    rcases C6_ok _ ih h with h | h
    · exact h
    rcases Cv_ok _ ih h with h | h
    · exact h
    rcases Br_ok _ ih h with h | h
    · exact h
    rcases Bl_ok _ ih h with h | h
    · exact h
    rcases C1_ok _ ih h with h | h
    · exact h
    rcases Ao_ok _ ih h with h | h
    · exact h
    rcases Bq_ok _ ih h with h | h
    · exact h
    rcases Df_ok _ ih h with h | h
    · exact h
    rcases Bh_ok _ ih h with h | h
    · exact h
    rcases Bv_ok _ ih h with h | h
    · exact h
    rcases Bd_ok _ ih h with h | h
    · exact h
    rcases Dg_ok _ ih h with h | h
    · exact h
    rcases C8_ok _ ih h with h | h
    · exact h
    rcases C7_ok _ ih h with h | h
    · exact h
    rcases Cw_ok _ ih h with h | h
    · exact h
    rcases B5_ok _ ih h with h | h
    · exact h
    rcases C0_ok _ ih h with h | h
    · exact h
    rcases Da_ok _ ih h with h | h
    · exact h
    rcases Dk_ok _ ih h with h | h
    · exact h
    rcases Bb_ok _ ih h with h | h
    · exact h
    rcases Bg_ok _ ih h with h | h
    · exact h
    rcases A8_ok _ ih h with h | h
    · exact h
    rcases Aj_ok _ ih h with h | h
    · exact h
    rcases Db_ok _ ih h with h | h
    · exact h
    rcases A9_ok _ ih h with h | h
    · exact h
    rcases Bm_ok _ ih h with h | h
    · exact h
    rcases A6_ok _ ih h with h | h
    · exact h
    rcases Cj_ok _ ih h with h | h
    · exact h
    rcases A7_ok _ ih h with h | h
    · exact h
    rcases Cb_ok _ ih h with h | h
    · exact h
    rcases Ae_ok _ ih h with h | h
    · exact h
    rcases An_ok _ ih h with h | h
    · exact h
    rcases Be_ok _ ih h with h | h
    · exact h
    rcases Cq_ok _ ih h with h | h
    · exact h
    rcases Cr_ok _ ih h with h | h
    · exact h
    rcases Bi_ok _ ih h with h | h
    · exact h
    rcases Cp_ok _ ih h with h | h
    · exact h
    rcases C9_ok _ ih h with h | h
    · exact h
    rcases By_ok _ ih h with h | h
    · exact h
    rcases Az_ok _ ih h with h | h
    · exact h
    rcases A4_ok _ ih h with h | h
    · exact h
    rcases C5_ok _ ih h with h | h
    · exact h
    rcases Ct_ok _ ih h with h | h
    · exact h
    rcases Bp_ok _ ih h with h | h
    · exact h
    rcases Ad_ok _ ih h with h | h
    · exact h
    rcases B3_ok _ ih h with h | h
    · exact h
    rcases A0_ok _ ih h with h | h
    · exact h
    rcases Ax_ok _ ih h with h | h
    · exact h
    rcases Cf_ok _ ih h with h | h
    · exact h
    cases h
  | succ n ih0 =>
    intro Ω f l K r h
    have ih : ∀ m, n + 1 = m + 1 → ∀ {Ω : Type}, F4 (Ω := Ω) (call Try.prog Jl kp m) (orK (lv m)) := fun m e => by cases e; exact ih0
    rcases Bn_ok _ ih h with h | h
    · exact h
    rcases Dn_ok _ ih h with h | h
    · exact h
    rcases Bj_ok _ ih h with h | h
    · exact h
    rcases Cs_ok _ ih h with h | h
    · exact h
    rcases Ah_ok _ ih h with h | h
    · exact h
    rcases Cc_ok _ ih h with h | h
    · exact h
    rcases Ar_ok _ ih h with h | h
    · exact h
    rcases Bc_ok _ ih h with h | h
    · exact h
    rcases Bs_ok _ ih h with h | h
    · exact h
    rcases Ba_ok _ ih h with h | h
    · exact h
    rcases Bf_ok _ ih h with h | h
    · exact h
    rcases Bu_ok _ ih h with h | h
    · exact h
    rcases B4_ok _ ih h with h | h
    · exact h
    rcases Ap_ok _ ih h with h | h
    · exact h
    rcases Bk_ok _ ih h with h | h
    · exact h
    rcases Cy_ok _ ih h with h | h
    · exact h
    rcases Bz_ok _ ih h with h | h
    · exact h
    rcases Cm_ok _ ih h with h | h
    · exact h
    rcases Cn_ok _ ih h with h | h
    · exact h
    rcases Co_ok _ ih h with h | h
    · exact h
    rcases B6_ok _ ih h with h | h
    · exact h
    rcases B7_ok _ ih h with h | h
    · exact h
    rcases B8_ok _ ih h with h | h
    · exact h
    rcases Dm_ok _ ih h with h | h
    · exact h
    rcases Cz_ok _ ih h with h | h
    · exact h
    rcases De_ok _ ih h with h | h
    · exact h
    rcases B0_ok _ ih h with h | h
    · exact h
    rcases Dd_ok _ ih h with h | h
    · exact h
    rcases B9_ok _ ih h with h | h
    · exact h
    rcases Dl_ok _ ih h with h | h
    · exact h
    rcases Cx_ok _ ih h with h | h
    · exact h
    rcases Bx_ok _ ih h with h | h
    · exact h
    rcases Au_ok _ ih h with h | h
    · exact h
    rcases C4_ok _ ih h with h | h
    · exact h
    rcases Bw_ok _ ih h with h | h
    · exact h
    rcases Di_ok _ ih h with h | h
    · exact h
    rcases C3_ok _ ih h with h | h
    · exact h
    rcases Dc_ok _ ih h with h | h
    · exact h
    rcases A5_ok _ ih h with h | h
    · exact h
    rcases Dh_ok _ ih h with h | h
    · exact h
    rcases C6_ok _ ih h with h | h
    · exact h
    rcases Cv_ok _ ih h with h | h
    · exact h
    rcases Br_ok _ ih h with h | h
    · exact h
    rcases Bl_ok _ ih h with h | h
    · exact h
    rcases C1_ok _ ih h with h | h
    · exact h
    rcases Ao_ok _ ih h with h | h
    · exact h
    rcases Bq_ok _ ih h with h | h
    · exact h
    rcases Df_ok _ ih h with h | h
    · exact h
    rcases Bh_ok _ ih h with h | h
    · exact h
    rcases Bv_ok _ ih h with h | h
    · exact h
    rcases Bd_ok _ ih h with h | h
    · exact h
    rcases Dg_ok _ ih h with h | h
    · exact h
    rcases C8_ok _ ih h with h | h
    · exact h
    rcases C7_ok _ ih h with h | h
    · exact h
    rcases Cw_ok _ ih h with h | h
    · exact h
    rcases B5_ok _ ih h with h | h
    · exact h
    rcases C0_ok _ ih h with h | h
    · exact h
    rcases Da_ok _ ih h with h | h
    · exact h
    rcases Dk_ok _ ih h with h | h
    · exact h
    rcases Bb_ok _ ih h with h | h
    · exact h
    rcases Bg_ok _ ih h with h | h
    · exact h
    rcases A8_ok _ ih h with h | h
    · exact h
    rcases Aj_ok _ ih h with h | h
    · exact h
    rcases Db_ok _ ih h with h | h
    · exact h
    rcases A9_ok _ ih h with h | h
    · exact h
    rcases Bm_ok _ ih h with h | h
    · exact h
    rcases A6_ok _ ih h with h | h
    · exact h
    rcases Cj_ok _ ih h with h | h
    · exact h
    rcases A7_ok _ ih h with h | h
    · exact h
    rcases Cb_ok _ ih h with h | h
    · exact h
    rcases Ae_ok _ ih h with h | h
    · exact h
    rcases An_ok _ ih h with h | h
    · exact h
    rcases Be_ok _ ih h with h | h
    · exact h
    rcases Cq_ok _ ih h with h | h
    · exact h
    rcases Cr_ok _ ih h with h | h
    · exact h
    rcases Bi_ok _ ih h with h | h
    · exact h
    rcases Cp_ok _ ih h with h | h
    · exact h
    rcases C9_ok _ ih h with h | h
    · exact h
    rcases By_ok _ ih h with h | h
    · exact h
    rcases Az_ok _ ih h with h | h
    · exact h
    rcases A4_ok _ ih h with h | h
    · exact h
    rcases C5_ok _ ih h with h | h
    · exact h
    rcases Ct_ok _ ih h with h | h
    · exact h
    rcases Bp_ok _ ih h with h | h
    · exact h
    rcases Ad_ok _ ih h with h | h
    · exact h
    rcases B3_ok _ ih h with h | h
    · exact h
    rcases A0_ok _ ih h with h | h
    · exact h
    rcases Ax_ok _ ih h with h | h
    · exact h
    rcases Cf_ok _ ih h with h | h
    · exact h
    cases h
end Go.Vm.T
