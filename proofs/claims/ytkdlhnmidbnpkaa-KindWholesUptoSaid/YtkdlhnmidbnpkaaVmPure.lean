/- The plain law. -/
import Derived.Test.YtkdlhnmidbnpkaaVmEq
import Derived.Test.YtkdlhnmidbnpkaaVmThree
import Derived.Laws.BitsLemmas
import Derived.Lib.RuneCountTail
import Derived.Laws.RangeAny
set_option linter.unusedVariables false
set_option linter.unusedSimpArgs false
namespace Go.Vm.T
open Go Go.Vm Go.Proofs
attribute [local irreducible] lv Bn_b Bn_l0 Dn_b Bj_b Bj_l0 Bj_l1 Cs_b Ah_b Ah_l0 Ah_l1 Ah_l2 Ah_l3 Ah_l4 Ah_l5 Ah_l6 Cc_b Ar_b Ar_l0 Ar_l1 Ar_l2 Ar_l3 Bc_b Bc_l0 Bc_l1 Bs_b Bs_l0 Ba_b Ba_l0 Ba_l1 Bf_b Bf_l0 Bf_l1 Bu_b Bu_l0 B4_b B4_l0 Ap_b Ap_l0 Ap_l1 Ap_l2 Ap_l3 Bk_b Bk_l0 Bk_l1 Cy_b Bz_b Bz_l0 Cm_b Cn_b Co_b B6_b B6_l0 B7_b B7_l0 B8_b B8_l0 Dm_b Cz_b De_b B0_b B0_l0 Dd_b B9_b B9_l0 Dl_b Cx_b Bx_b Bx_l0 Au_b Au_l0 Au_l1 Au_l2 Au_l3 C4_b Bw_b Bw_l0 Di_b C3_b Dc_b A5_b A5_l0 A5_l1 Dh_b C6_b Cv_b Br_b Br_l0 Bl_b Bl_l0 Bl_l1 C1_b Ao_b Ao_l0 Ao_l1 Ao_l2 Ao_l3 Bq_b Bq_l0 Df_b Bh_b Bh_l0 Bh_l1 Bv_b Bv_l0 Bd_b Bd_l0 Bd_l1 Dg_b C8_b C7_b Cw_b Cw_l0 Cw_l1 Cw_l2 B5_b B5_l0 C0_b Da_b Dk_b Bb_b Bb_l0 Bb_l1 Bg_b Bg_l0 Bg_l1 A8_b A8_l0 A8_l1 Aj_b Aj_l0 Aj_l1 Aj_l2 Aj_l3 Aj_l4 Db_b A9_b A9_l0 Bm_b Bm_l0 A6_b A6_l0 A6_l1 Cj_b A7_b A7_l0 Cb_b Ae_b Ae_l0 Ae_l1 Ae_l2 Ae_l3 Ae_l4 An_b An_l0 An_l1 Be_b Be_l0 Be_l1 Cq_b Cr_b Bi_b Bi_l0 Cp_b C9_b By_b By_l0 Az_b Az_l0 Az_l1 Az_l2 A4_b A4_l0 A4_l1 A4_l2 C5_b Ct_b Bp_b Bp_l0 Ad_b Ad_l0 Ad_l1 Ad_l2 Ad_l3 Ad_l4 Ad_l5 Ad_l6 Ad_l7 Ad_l8 B3_b B3_l0 A0_b A0_l0 A0_l1 Ax_b Ax_l0 Ax_l1 Ax_l2 Cf_b
theorem Ox (s : ByteArray) (at_ n : Int) (h0 : 0 ≤ at_) (h1 : at_ + n ≤ s.size) (h2 : 0 ≤ n) (hn : n ≤ 4) (hs : s.size ≤ 2097152) : Tot (fun k _ _ => (lv k).An s at_ n) (fun _ => True) := by
  have hl : ∀ (d : Nat) (v3 v4 : Int), 0 ≤ v4 → (n - v4).toNat = d → Tot (fun k a b => An_l0 (lv k) k s at_ n a v3 v4) (fun _ => True) := by
    intro d
    induction d with
    | zero =>
      intro v3 v4 h3 h4
      refine Tot.step0 (fun k a b => An_l0_q (lv k) k s at_ n a v3 v4) ?_
      exact Tot.f (decide_eq_false (by omega)) (Tot.ret trivial)
    | succ d ih =>
      intro v3 v4 h3 h4
      have hi : ∀ v, Tot (fun k a b => An_l0 (lv k) k s at_ n a v (IntKind.i64.wrap (v4 + 1))) (fun _ => True) := fun v => by
        rw [Ag (by omega) (by omega)]
        exact ih v (v4 + 1) (by omega) (by omega)
      have hm : ∀ v5, Tot (fun k a b => An_l1 (lv k) k s at_ n a v3 v4 v5) (fun _ => True) := fun v5 => by
        refine Tot.congr ?_ (fun k a b => An_l1_q (lv k) k s at_ n a v3 v4 v5)
        repeat' first
          | refine Tot.cond (fun _ => ?_) (fun _ => ?_)
          | exact hi _
      refine Tot.step0 (fun k a b => An_l0_q (lv k) k s at_ n a v3 v4) ?_
      have hw : IntKind.i64.wrap (at_ + v4) = at_ + v4 := Ag (by omega) (by omega)
      refine Tot.t (decide_eq_true (by omega)) (Tot.t (decide_eq_true (by omega)) (Tot.t (decide_eq_true (by omega)) ?_))
      repeat' first
        | refine Tot.cond (fun _ => ?_) (fun _ => ?_)
        | exact hm _
  exact An_up _ _ _ (Tot.congr (Tot.in0 (hl _ 0 0 (by omega) rfl)) (fun k _ _ => An_q (lv k) k s at_ n))
theorem Sl (r : Int) : Tot (fun k _ _ => (lv k).Cb r) (fun l => l.length ≤ 4) := by
  refine Cb_up _ (Tot.congr ?_ (fun k _ _ => Cb_q (lv k) k r))
  repeat' first
    | refine Tot.cond (fun _ => ?_) (fun _ => ?_)
    | exact Tot.ret (by simp)
theorem Pp (s : ByteArray) (at_ : Int) (l : LL) (h0 : 0 ≤ at_) (h1 : at_ ≤ s.size) (hl : l.length ≤ 2097152) (hs : s.size ≤ 2097160) : Tot (fun k _ _ => (lv k).Bi s at_ l) (fun _ => True) := by
  refine Bi_up _ _ _ (Tot.congr ?_ (fun k _ _ => Bi_q (lv k) k s at_ l))
  have hw : IntKind.i64.wrap (at_ + (l.length : Int)) = at_ + l.length := Ag (by omega) (by omega)
  rw [hw]
  refine Tot.cond (fun _ => Tot.ret trivial) (fun _ => Tot.cond (fun _ => Tot.ret trivial) (fun hc => ?_))
  have hc := of_decide_eq_false hc
  have hl : ∀ (d : Nat) (v3 : Int), 0 ≤ v3 → ((l.length : Int) - v3).toNat = d → Tot (fun k a b => Bi_l0 (lv k) k s at_ l a v3) (fun _ => True) := by
    intro d
    induction d with
    | zero =>
      intro v3 h3 h4
      refine Tot.step0 (fun k a b => Bi_l0_q (lv k) k s at_ l a v3) ?_
      exact Tot.f (decide_eq_false (by omega)) (Tot.ret trivial)
    | succ d ih =>
      intro v3 h3 h4
      refine Tot.step0 (fun k a b => Bi_l0_q (lv k) k s at_ l a v3) ?_
      have hw : IntKind.i64.wrap (at_ + v3) = at_ + v3 := Ag (by omega) (by omega)
      rw [hw, Ag (x := v3 + 1) (by omega) (by omega)]
      refine Tot.t (decide_eq_true (by omega)) (Tot.t (decide_eq_true (by omega)) (Tot.t (decide_eq_true (by omega)) (Tot.t (decide_eq_true (by omega)) (Tot.t (decide_eq_true (by omega)) ?_))))
      exact Tot.cond (fun _ => Tot.ret trivial) (fun _ => ih _ (by omega) (by omega))
  exact Tot.in0 (hl _ 0 (by omega) rfl)
theorem Oj (l : LL) : (Eu l).size = l.length := by
  unfold Eu
  show (List.toArray _).size = _
  rw [List.size_toArray, List.length_map]
theorem X0 (s : ByteArray) : (Fd s).length = s.size := by
  unfold Fd
  rw [List.length_map, Array.length_toList]
  rfl
theorem Lb (a b : ByteArray) : (a ++ b).size = a.size + b.size := by simp
theorem Abz (s : ByteArray) (a b : Nat) : (s.extract a b).size = min b s.size - a := by simp
set_option maxRecDepth 100000 in
theorem P3 (s : ByteArray) (at_ : Int) (h0 : 0 ≤ at_) (h1 : at_ ≤ s.size) (hs : s.size ≤ 1048576) : Tot (fun k _ _ => (lv k).Ae s at_) (fun _ => True) := by
  have hw : IntKind.i64.wrap ((s.size : Int) - at_) = s.size - at_ := Ag (by omega) (by omega)
  refine Ae_up _ _ (Tot.congr ?_ (fun k _ _ => Ae_q (lv k) k s at_))
  rw [hw]
  refine Tot.cond (fun _ => Tot.ret trivial) (fun hn => Tot.cond (fun _ => Tot.ret trivial) (fun hn2 => ?_))
  have hn := of_decide_eq_false hn
  have hn2 := of_decide_eq_false hn2
  rw [Ag (x := (s.size : Int) - at_ + 1) (by omega) (by omega)]
  have hx : (s.extract at_.toNat ((s.size : Int).toNat)).size = s.size - at_.toNat := by rw [Abz]; omega
  have key : ∀ (d : Nat) (v3 : Int), (s.size : Int) - at_ + 1 ≤ v3 → (5 - v3).toNat = d → Tot (fun k a b => Ae_l0 (lv k) k s at_ a v3) (fun _ => True) := by
    intro d
    induction d with
    | zero =>
      intro v3 h3 h4
      refine Tot.step0 (fun k a b => Ae_l0_q (lv k) k s at_ a v3) ?_
      exact Tot.f (decide_eq_false (by omega)) (Tot.ret trivial)
    | succ d ih =>
      intro v3 h3 h4
      have hnext : Tot (fun k a b => Ae_l0 (lv k) k s at_ a (IntKind.i64.wrap (v3 + 1))) (fun _ => True) := by
        rw [Ag (by omega) (by omega)]
        exact ih _ (by omega) (by omega)
      have h4l : ∀ (d : Nat) (v5 v6 v7 : Int), 0 ≤ v7 → (64 - v7).toNat = d → Tot (fun k a b => Ae_l4 (lv k) k s at_ a b v3 v5 v6 v7) (fun _ => True) := by
        intro d
        induction d with
        | zero =>
          intro v5 v6 v7 h5 h6
          refine Tot.step1 (fun k a b => Ae_l4_q (lv k) k s at_ a b v3 v5 v6 v7) ?_
          exact Tot.f (decide_eq_false (by omega)) hnext
        | succ d ihd =>
          intro v5 v6 v7 h5 h6
          refine Tot.step1 (fun k a b => Ae_l4_q (lv k) k s at_ a b v3 v5 v6 v7) ?_
          have hi : Tot (fun k a b => Ae_l4 (lv k) k s at_ a b v3 v5 v6 (IntKind.i64.wrap (v7 + 1))) (fun _ => True) := by
            rw [Ag (by omega) (by omega)]
            exact ihd v5 v6 _ (by omega) (by omega)
          have hp : ∀ r, Tot (fun k a b => ((lv k).Cb r).bind fun r1 => cond ((r1.length : Int) == v3) (cond (decide ((Eu r1).size + (⟨#[120]⟩ : ByteArray).size ≤ 4611686018427387904)) (cond (Do Try.prog 5 ((s.extract at_.toNat ((s.size : Int).toNat)).size)) (((lv k).Bi ((Eu r1) ++ (⟨#[120]⟩ : ByteArray)) 0 (Fd (s.extract at_.toNat ((s.size : Int).toNat)))).bind fun r2 => cond r2 (some true) (Ae_l4 (lv k) k s at_ a b v3 v5 v6 (IntKind.i64.wrap (v7 + 1)))) none) none) (Ae_l4 (lv k) k s at_ a b v3 v5 v6 (IntKind.i64.wrap (v7 + 1)))) (fun _ => True) := fun r => by
            refine Tot.bind (Sl r) fun r1 hr1 => Tot.cond (fun _ => ?_) (fun _ => hi)
            have e1 : (⟨#[120]⟩ : ByteArray).size = 1 := rfl
            refine Tot.t (decide_eq_true (by rw [Oj, e1]; omega)) (Tot.t (D2 (of_decide_eq_true (by kernel_rfl)) (by omega)) ?_)
            refine Tot.bind (Pp _ 0 _ (by omega) (by omega) (by rw [X0]; omega) (by rw [Lb, Oj, e1]; omega)) fun r2 _ => Tot.cond (fun _ => Tot.ret trivial) (fun _ => hi)
          refine Tot.t (decide_eq_true (by omega)) (Tot.cond (fun _ => hp _) (fun _ => hp _))
      have h3l : ∀ v5 v6 v7 v8, Tot (fun k a b => Ae_l3 (lv k) k s at_ a v3 v5 v6 v7 v8) (fun _ => True) := fun v5 v6 v7 v8 => by
        refine Tot.congr ?_ (fun k a b => Ae_l3_q (lv k) k s at_ a v3 v5 v6 v7 v8)
        exact Tot.cond (fun _ => hnext) (fun _ => Tot.cond (fun _ => hnext) (fun _ => Tot.in1 (h4l _ v5 v6 0 (by omega) rfl)))
      have h2l : ∀ (d : Nat) (v5 v6 : Int) (v7 : Bool) (v8 : Int), 1 ≤ v8 → ((s.size : Int) - at_ - v8).toNat = d → Tot (fun k a b => Ae_l2 (lv k) k s at_ a b v3 v5 v6 v7 v8) (fun _ => True) := by
        intro d
        induction d with
        | zero =>
          intro v5 v6 v7 v8 h5 h6
          refine Tot.step1 (fun k a b => Ae_l2_q (lv k) k s at_ a b v3 v5 v6 v7 v8) ?_
          rw [hw]
          refine Tot.f (decide_eq_false (by omega)) ?_
          have g1 : decide ((0 : Int) ≤ at_) = true := decide_eq_true h0
          have g2 : decide (at_ < (s.size : Int)) = true := decide_eq_true (by omega)
          repeat' first
            | exact h3l _ _ _ _
            | refine Tot.t g1 ?_
            | refine Tot.t g2 ?_
            | refine Tot.cond (fun _ => ?_) (fun _ => ?_)
        | succ d ihd =>
          intro v5 v6 v7 v8 h5 h6
          refine Tot.step1 (fun k a b => Ae_l2_q (lv k) k s at_ a b v3 v5 v6 v7 v8) ?_
          rw [hw, Ag (x := at_ + v8) (by omega) (by omega), Ag (x := v8 + 1) (by omega) (by omega)]
          refine Tot.t (decide_eq_true (by omega)) ?_
          have g1 : decide ((0 : Int) ≤ at_ + v8) = true := decide_eq_true (by omega)
          have g2 : decide (at_ + v8 < (s.size : Int)) = true := decide_eq_true (by omega)
          repeat' first
            | exact ihd _ _ _ _ (by omega) (by omega)
            | refine Tot.t g1 ?_
            | refine Tot.t g2 ?_
            | refine Tot.cond (fun _ => ?_) (fun _ => ?_)
      have h1l : ∀ (d : Nat) (v5 v6 : ByteArray), v5.size = v6.size → v5.size ≤ 2097152 → (v3 - v5.size).toNat = d → Tot (fun k a b => Ae_l1 (lv k) k s at_ a b v3 v5 v6) (fun _ => True) := by
        intro d
        induction d with
        | zero =>
          intro v5 v6 h5 h6 h7
          refine Tot.step1 (fun k a b => Ae_l1_q (lv k) k s at_ a b v3 v5 v6) ?_
          refine Tot.f (decide_eq_false (by omega)) ?_
          exact Tot.bind (Ox v5 0 v3 (by omega) (by omega) (by omega) (by omega) h6) fun r1 _ => Tot.bind (Ox v6 0 v3 (by omega) (by omega) (by omega) (by omega) (by omega)) fun r2 _ => Tot.in1 (h2l _ r1 r2 true 1 (by omega) rfl)
        | succ d ihd =>
          intro v5 v6 h5 h6 h7
          refine Tot.step1 (fun k a b => Ae_l1_q (lv k) k s at_ a b v3 v5 v6) ?_
          have e1 : (⟨#[128]⟩ : ByteArray).size = 1 := rfl
          have e2 : (⟨#[191]⟩ : ByteArray).size = 1 := rfl
          refine Tot.t (decide_eq_true (by omega)) (Tot.t (decide_eq_true (by rw [e1]; omega)) (Tot.t (decide_eq_true (by rw [e2]; omega)) ?_))
          exact ihd _ _ (by rw [Lb, Lb, e1, e2]; omega) (by rw [Lb, e1]; omega) (by rw [Lb, e1]; omega)
      refine Tot.step0 (fun k a b => Ae_l0_q (lv k) k s at_ a v3) ?_
      refine Tot.t (decide_eq_true (by omega)) (Tot.t (decide_eq_true (by omega)) (Tot.t (decide_eq_true (by omega)) (Tot.t (decide_eq_true (by omega)) (Tot.t (decide_eq_true (by omega)) ?_))))
      exact Tot.in1 (h1l _ _ _ rfl (by rw [hx]; omega) rfl)
  exact Tot.in0 (key _ _ (by omega) rfl)
theorem S5 (s : ByteArray) (at_ : Int) (h0 : 0 ≤ at_) (hs : s.size ≤ 1048576) : Tot (fun k _ _ => (lv k).A7 s at_) (fun r => r.2.2 = 0 → 1 ≤ r.2.1 ∧ r.2.1 ≤ 4 ∧ at_ + r.2.1 ≤ s.size) := by
  refine A7_up _ _ (Tot.congr ?_ (fun k _ _ => A7_q (lv k) k s at_))
  refine Tot.cond (fun _ => Tot.ret (fun h => by cases h)) (fun h1 => Tot.cond (fun _ => Tot.ret (fun h => by cases h)) (fun h2 => ?_))
  have h1 := of_decide_eq_false h1
  have h2 := of_decide_eq_false h2
  have hc : Tot (fun k a b => ((lv k).Ae s at_).bind fun r7 => cond r7 (some ((0 : Int), (0 : Int), (7 : Int))) (some (0, 0, 2))) (fun r => r.2.2 = 0 → 1 ≤ r.2.1 ∧ r.2.1 ≤ 4 ∧ at_ + r.2.1 ≤ s.size) :=
    Tot.bind (P3 s at_ h0 (by omega) hs) fun r _ => Tot.cond (fun _ => Tot.ret (fun h => by cases h)) (fun _ => Tot.ret (fun h => by cases h))
  have key : ∀ (d : Nat) (v2 : Int), 1 ≤ v2 → (5 - v2).toNat = d → Tot (fun k a b => A7_l0 (lv k) k s at_ a v2) (fun r => r.2.2 = 0 → 1 ≤ r.2.1 ∧ r.2.1 ≤ 4 ∧ at_ + r.2.1 ≤ s.size) := by
    intro d
    induction d with
    | zero =>
      intro v2 h3 h4
      refine Tot.step0 (fun k a b => A7_l0_q (lv k) k s at_ a v2) ?_
      exact Tot.f (decide_eq_false (by omega)) hc
    | succ d ih =>
      intro v2 h3 h4
      refine Tot.step0 (fun k a b => A7_l0_q (lv k) k s at_ a v2) ?_
      rw [Ag (x := at_ + v2) (by omega) (by omega), Ag (x := v2 + 1) (by omega) (by omega)]
      have hi := ih (v2 + 1) (by omega) (by omega)
      refine Tot.t (decide_eq_true (by omega)) (Tot.cond (fun h5 => ?_) (fun _ => hc))
      have h5 := of_decide_eq_true h5
      have hp : ∀ v, Tot (fun k a b => ((lv k).Cb v).bind fun r2 => cond ((r2.length : Int) == v2) (((lv k).Bi s at_ r2).bind fun r3 => cond r3 (some (v, v2, 0)) (A7_l0 (lv k) k s at_ a (v2 + 1))) (A7_l0 (lv k) k s at_ a (v2 + 1))) (fun r => r.2.2 = 0 → 1 ≤ r.2.1 ∧ r.2.1 ≤ 4 ∧ at_ + r.2.1 ≤ s.size) := fun v =>
        Tot.bind (Sl v) fun r2 hr2 => Tot.cond (fun _ => Tot.bind (Pp s at_ r2 h0 (by omega) (by omega) (by omega)) fun r3 _ => Tot.cond (fun _ => Tot.ret (fun _ => ⟨h3, by show v2 ≤ 4; omega, h5⟩)) (fun _ => hi)) (fun _ => hi)
      refine Tot.t (decide_eq_true (by omega)) (Tot.t (decide_eq_true (by omega)) (Tot.cond (fun h6 => ?_) (fun _ => hp _)))
      exact Tot.bind (Ox s at_ v2 h0 (by omega) (by omega) (by omega) (by omega)) fun r1 _ => hp r1
  exact Tot.in0 (key _ 1 (by omega) rfl)
theorem Uh (s : ByteArray) (hs : s.size ≤ 1048576) : Tot (fun k _ _ => (lv k).A6 s) (fun r => r.1.length ≤ 1048576) := by
  refine A6_up _ (Tot.congr ?_ (fun k _ _ => A6_q (lv k) k s))
  have key : ∀ (d : Nat) (v1 : Int) (v2 : LL), 0 ≤ v1 → v1 ≤ s.size → (v2.length : Int) ≤ v1 → ((s.size : Int) - v1).toNat ≤ d → Tot (fun k a b => A6_l1 (lv k) k s a v1 v2) (fun r => r.1.length ≤ 1048576) := by
    intro d
    induction d with
    | zero =>
      intro v1 v2 h0 h1 h2 h3
      refine Tot.step0 (fun k a b => A6_l1_q (lv k) k s a v1 v2) ?_
      exact Tot.f (decide_eq_false (by omega)) (Tot.ret (by show v2.length ≤ 1048576; omega))
    | succ d ih =>
      intro v1 v2 h0 h1 h2 h3
      refine Tot.step0 (fun k a b => A6_l1_q (lv k) k s a v1 v2) ?_
      refine Tot.cond (fun h4 => ?_) (fun _ => Tot.ret (by show v2.length ≤ 1048576; omega))
      refine Tot.bind (S5 s v1 h0 hs) fun r hr => Tot.cond (fun _ => Tot.ret (by show v2.length ≤ 1048576; omega)) (fun h5 => ?_)
      have h5 : r.2.2 = 0 := by simpa using h5
      obtain ⟨h6, h7, h8⟩ := hr h5
      rw [Ag (by omega) (by omega)]
      refine Tot.t (D2 (of_decide_eq_true (by kernel_rfl)) (by omega)) (ih _ _ (by omega) (by omega) (by rw [List.length_append]; simp; omega) (by omega))
  refine Tot.in0 (g := fun k a _ => A6_l0 (lv k) k s a) (Tot.step0 (fun k a b => A6_l0_q (lv k) k s a) ?_)
  refine Tot.cond (fun h4 => ?_) (fun _ => Tot.ret (by show ([] : LL).length ≤ 1048576; simp))
  refine Tot.bind (S5 s 0 (by omega) hs) fun r hr => Tot.cond (fun _ => Tot.ret (by show ([] : LL).length ≤ 1048576; simp)) (fun h5 => ?_)
  have h5 : r.2.2 = 0 := by simpa using h5
  obtain ⟨h6, h7, h8⟩ := hr h5
  rw [Ag (by omega) (by omega)]
  exact key _ _ _ (by omega) (by omega) (by simp; omega) (Nat.le_refl _)
theorem Vo (r : Int) : Tot (fun k _ _ => (lv k).Cp r) (fun _ => True) := by
  refine Cp_up _ (Tot.congr ?_ (fun k _ _ => Cp_q (lv k) k r))
  repeat' first
    | refine Tot.cond (fun _ => ?_) (fun _ => ?_)
    | exact Tot.ret trivial
theorem Vw (r : Int) : Tot (fun k _ _ => (lv k).Cq r) (fun _ => True) := by
  refine Cq_up _ (Tot.congr ?_ (fun k _ _ => Cq_q (lv k) k r))
  repeat' first
    | refine Tot.cond (fun _ => ?_) (fun _ => ?_)
    | exact Tot.ret trivial
    | refine Tot.bind (Vo _) fun _ _ => ?_
set_option maxRecDepth 100000 in
theorem Th (r : Int) : Tot (fun k _ _ => (lv k).Cj r) (fun _ => True) := by
  refine Cj_up _ (Tot.congr ?_ (fun k _ _ => Cj_q (lv k) k r))
  repeat' first
    | refine Tot.cond (fun _ => ?_) (fun _ => ?_)
    | exact Tot.ret trivial
set_option maxRecDepth 100000 in
theorem Zz (r : Int) : Tot (fun k _ _ => (lv k).Cr r) (fun _ => True) := by
  refine Cr_up _ (Tot.congr ?_ (fun k _ _ => Cr_q (lv k) k r))
  repeat' first
    | refine Tot.cond (fun _ => ?_) (fun _ => ?_)
    | exact Tot.ret trivial
    | refine Tot.bind (Th _) fun _ _ => ?_
theorem N8 (s : ByteArray) (hs : s.size ≤ 1048576) : Tot (fun k _ _ => (lv k).A9 s) (fun _ => True) := by
  refine A9_up _ (Tot.congr ?_ (fun k _ _ => A9_q (lv k) k s))
  refine Tot.bind (Uh s hs) fun r hr => ?_
  have key : ∀ (d : Nat) (v1 : Int), 0 ≤ v1 → ((r.1.length : Int) - v1).toNat = d → Tot (fun k a b => A9_l0 (lv k) k s a r.2.2 v1 r.1) (fun _ => True) := by
    intro d
    induction d with
    | zero =>
      intro v1 h0 h1
      refine Tot.step0 (fun k a b => A9_l0_q (lv k) k s a r.2.2 v1 r.1) ?_
      exact Tot.f (decide_eq_false (by omega)) (Tot.ret trivial)
    | succ d ih =>
      intro v1 h0 h1
      refine Tot.step0 (fun k a b => A9_l0_q (lv k) k s a r.2.2 v1 r.1) ?_
      rw [Ag (x := v1 + 1) (by omega) (by omega)]
      refine Tot.t (decide_eq_true (by omega)) (Tot.t (decide_eq_true (by omega)) (Tot.t (decide_eq_true (by omega)) ?_))
      exact Tot.bind (Vw _) fun r1 _ => Tot.cond (fun _ => Tot.ret trivial) (fun _ => ih _ (by omega) (by omega))
  exact Tot.in0 (key _ 0 (by omega) rfl)
theorem Rc (s : ByteArray) : (En s).length ≤ s.size := by
  unfold En
  rw [List.length_map]
  exact S6 s s.size 0
theorem Z7 (s : ByteArray) (hs : s.size ≤ 1048576) : Tot (fun k _ _ => (lv k).Bm s) (fun _ => True) := by
  refine Bm_up _ (Tot.congr ?_ (fun k _ _ => Bm_q (lv k) k s))
  have hl := Rc s
  refine Tot.t (D2 (of_decide_eq_true (by kernel_rfl)) (by omega)) ?_
  refine Tot.cond (fun _ => Tot.ret trivial) (fun h1 => ?_)
  have h1 : (En s).length ≠ 0 := by simpa using h1
  refine Tot.t (decide_eq_true (by omega)) (Tot.bind (Th _) fun r _ => Tot.cond (fun _ => Tot.ret trivial) (fun _ => ?_))
  have key : ∀ (d : Nat) (v1 : Int), 0 ≤ v1 → (((En s).length : Int) - v1).toNat = d → Tot (fun k a b => Bm_l0 (lv k) k s a v1) (fun _ => True) := by
    intro d
    induction d with
    | zero =>
      intro v1 h0 h1
      refine Tot.step0 (fun k a b => Bm_l0_q (lv k) k s a v1) ?_
      exact Tot.f (decide_eq_false (by omega)) (Tot.ret trivial)
    | succ d ih =>
      intro v1 h0 h1
      refine Tot.step0 (fun k a b => Bm_l0_q (lv k) k s a v1) ?_
      rw [Ag (x := v1 + 1) (by omega) (by omega)]
      refine Tot.t (decide_eq_true (by omega)) (Tot.t (decide_eq_true (by omega)) (Tot.t (decide_eq_true (by omega)) ?_))
      exact Tot.bind (Zz _) fun r1 _ => Tot.cond (fun _ => Tot.ret trivial) (fun _ => ih _ (by omega) (by omega))
  exact Tot.in0 (key _ 0 (by omega) rfl)
theorem Qm (s : ByteArray) (x : ByteArray) (hs : s.size ≤ 1048576) (hx : x.size ≤ 1048576) : Tot (fun k _ _ => (lv k).By s 0 x) (fun _ => True) := by
  refine By_up _ _ _ (Tot.congr ?_ (fun k _ _ => By_q (lv k) k s 0 x))
  have key : ∀ (d : Nat) (v2 : Int), 0 ≤ v2 → v2 ≤ 1048577 → ((s.size : Int) + 1 - v2).toNat = d → Tot (fun k a b => By_l0 (lv k) k s 0 x a v2) (fun _ => True) := by
    intro d
    induction d with
    | zero =>
      intro v2 h0 h1 h2
      refine Tot.step0 (fun k a b => By_l0_q (lv k) k s 0 x a v2) ?_
      rw [Ag (x := v2 + (x.size : Int)) (by omega) (by omega)]
      exact Tot.f (decide_eq_false (by omega)) (Tot.ret trivial)
    | succ d ih =>
      intro v2 h0 h1 h2
      refine Tot.step0 (fun k a b => By_l0_q (lv k) k s 0 x a v2) ?_
      rw [Ag (x := v2 + (x.size : Int)) (by omega) (by omega), Ag (x := v2 + 1) (by omega) (by omega)]
      refine Tot.cond (fun h3 => ?_) (fun _ => Tot.ret trivial)
      have h3 := of_decide_eq_true h3
      refine Tot.t (decide_eq_true (by omega)) (Tot.t (decide_eq_true (by omega)) (Tot.t (decide_eq_true (by omega)) (Tot.t (decide_eq_true (by omega)) ?_)))
      exact Tot.cond (fun _ => Tot.ret trivial) (fun _ => ih _ (by omega) (by omega) (by omega))
  exact Tot.in0 (key _ 0 (by omega) (by omega) rfl)
theorem Yi (s t : ByteArray) (hs : s.size ≤ 1048576) (ht : t.size ≤ 1048576) : Tot (fun k _ _ => (lv k).Db s t) (fun _ => True) := by
  refine Db_up _ _ (Tot.congr ?_ (fun k _ _ => Db_q (lv k) k s t))
  refine Tot.cond (fun _ => Tot.bind (Z7 t ht) fun r1 _ => Tot.cond (fun _ => Tot.bind (N8 t ht) fun r2 _ => Tot.cond (fun _ => Tot.bind (N8 s hs) fun r3 _ => Tot.cond (fun _ => Tot.bind (Qm s _ hs ?_) fun r4 _ => Tot.cond (fun _ => Tot.bind (Qm s _ hs ?_) fun r5 _ => Tot.ret trivial) (fun _ => Tot.ret trivial)) (fun _ => Tot.ret trivial)) (fun _ => Tot.ret trivial)) (fun _ => Tot.ret trivial)) (fun _ => Tot.ret trivial)
  · have : (⟨#[123]⟩ : ByteArray).size = 1 := rfl
    omega
  · have : (⟨#[125]⟩ : ByteArray).size = 1 := rfl
    omega
abbrev BB : Nat := 1048576
def ok : Nat → Bool → List C → Prop
  | 0, _, _ => False
  | d + 1, true, a => 1 ≤ gi a 0 ∧ gi a 0 ≤ 7 ∧ (gi a 0 = 4 ∨ gi a 0 = 5 → 2 ≤ (gr a 1).length) ∧ (gi a 0 = 6 → (gr a 1).length = 1) ∧ (gi a 0 = 7 ↔ (gr a 2).length = 1) ∧ (gr a 2).length ≤ 1 ∧ (gr a 1).length ≤ 64 ∧ (gi a 0 ≠ 4 → gi a 0 ≠ 5 → gi a 0 ≠ 6 → (gr a 1).length = 0) ∧ (∀ i, i < (gr a 1).length → ok d true ((gr a 1).getD i [])) ∧ (∀ i, i < (gr a 2).length → ok d false ((gr a 2).getD i []))
  | d + 1, false, a => 1 ≤ gi a 0 ∧ gi a 0 ≤ 11 ∧ (gi a 0 = 8 → (gr a 4).length = 1) ∧ (gr a 4).length ≤ 64 ∧ (gi a 0 = 9 ∨ gi a 0 = 10 → 2 ≤ (gr a 4).length) ∧ (gi a 0 ≠ 8 → gi a 0 ≠ 9 → gi a 0 ≠ 10 → (gr a 4).length = 0) ∧ (gi a 0 = 11 ↔ (gr a 5).length = 1) ∧ (gr a 5).length ≤ 1 ∧ (∀ i, i < (gr a 4).length → ok d false ((gr a 4).getD i [])) ∧ (∀ i, i < (gr a 5).length → ok d true ((gr a 5).getD i []))
def sz : Nat → Bool → List C → Nat
  | 0, _, _ => 1
  | d + 1, true, a => 1 + ((gr a 1).map (sz d true)).sum + ((gr a 2).map (sz d false)).sum
  | d + 1, false, a => 1 + ((gr a 4).map (sz d false)).sum + ((gr a 5).map (sz d true)).sum
theorem Mr {α : Type} (l : List α) (f : α → Nat) (i : Nat) (d : α) (h : i < l.length) : ((l.take (i + 1)).map f).sum = ((l.take i).map f).sum + f (l.getD i d) := by
  rw [List.take_add_one, List.map_append, List.sum_append, List.getElem?_eq_getElem h]
  simp [List.getD, List.getElem?_eq_getElem h]
theorem Gu {a : List C} {j i M : Nat} (h : SizeOf.sizeOf a < M + 1) (hi : i < (gr a j).length) : SizeOf.sizeOf ((gr a j).getD i []) < M := by
  have h1 := Qw j a
  have h2 := List.sizeOf_lt_of_mem (D1 (d := []) hi)
  omega
def F9 (k : Bool) (a : List C) (most r : Int) : Prop := 1 ≤ r ∧ r ≤ most + 1 ∧ (r ≤ most → ∀ d, (sz d k a : Int) ≤ r)
theorem Ab0 : ∀ M : Nat,
    (∀ (a : List C) (most : Int), SizeOf.sizeOf a < M → SmR BB a → 0 ≤ most → most ≤ 64 → Tot (fun k _ _ => (lv k).Bb (gi a 0) (gr a 1) (gr a 2) most) (F9 true a most)) ∧
    (∀ (a : List C) (most : Int), SizeOf.sizeOf a < M → SmR BB a → 0 ≤ most → most ≤ 64 → Tot (fun k _ _ => (lv k).Bg (gi a 0) (gs a 1) (gs a 2) (gs a 3) (gr a 4) (gr a 5) most) (F9 false a most)) := by
  intro M
  induction M with
  | zero => exact ⟨fun _ _ h => by omega, fun _ _ h => by omega⟩
  | succ M ih =>
    constructor
    · intro a most hM ha h0 h64
      have hl1 : (gr a 1).length ≤ 1048576 := (ha.gr 1).1
      have hl2 : (gr a 2).length ≤ 1048576 := (ha.gr 2).1
      refine Bb_up _ _ _ _ (Tot.congr ?_ (fun k _ _ => Bb_q (lv k) k (gi a 0) (gr a 1) (gr a 2) most))
      have l1 : ∀ (d i : Nat) (v : Int), (gr a 2).length - i = d → i ≤ (gr a 2).length → 1 ≤ v → v ≤ most + 1 → (v ≤ most → ∀ d, 1 + (((gr a 1).map (sz d true)).sum : Int) + (((gr a 2).take i).map (sz d false)).sum ≤ v) → Tot (fun k x y => Bb_l1 (lv k) k (gi a 0) (gr a 1) (gr a 2) most x v i) (F9 true a most) := by
        intro d
        induction d using Nat.strongRecOn with | _ d ihd => ?_
        intro i v hd hi g1 g2 g3
        have hend : i = (gr a 2).length ∨ ¬ v ≤ most → F9 true a most v := fun h => ⟨g1, g2, fun hv d => by
          rcases h with h | h
          · have := g3 hv (d - 1)
            rw [h, List.take_length] at this
            cases d with
            | zero => simp only [sz]; omega
            | succ d => simp only [sz]; simp only [Nat.add_sub_cancel] at this; omega
          · exact absurd hv h⟩
        refine Tot.step0 (fun k x y => Bb_l1_q (lv k) k (gi a 0) (gr a 1) (gr a 2) most x v (i : Int)) ?_
        rw [Ag (x := most - v) (by omega) (by omega), Ag (x := (i : Int) + 1) (by omega) (by omega), Int.toNat_natCast]
        refine Tot.cond (fun hc => Tot.cond (fun hc2 => ?_) (fun hc2 => Tot.ret (hend (.inr (of_decide_eq_false hc2))))) (fun hc => Tot.ret (hend (.inl ?_)))
        · have hc := of_decide_eq_true hc
          have hc2 := of_decide_eq_true hc2
          refine Tot.t (decide_eq_true (by omega)) (Tot.t (decide_eq_true (by omega)) ?_)
          refine Tot.bind (ih.2 _ _ (Gu hM (by omega : i < (gr a 2).length)) ((ha.gr 2).get i) (by omega) (by omega)) fun r hr => ?_
          obtain ⟨r1, r2, r3⟩ := hr
          rw [Ag (x := v + r) (by omega) (by omega)]
          refine ihd _ (by omega) (i + 1) (v + r) rfl (by omega) (by omega) (by omega) (fun hv d => ?_)
          have h1 := g3 (by omega) d
          have h2 := r3 (by omega) d
          rw [Mr _ _ _ [] (by omega)]
          omega
        · have hc := of_decide_eq_false hc
          omega
      have l0 : ∀ (d i : Nat) (v : Int), (gr a 1).length - i = d → i ≤ (gr a 1).length → 1 ≤ v → v ≤ most + 1 → (v ≤ most → ∀ d, 1 + ((((gr a 1).take i).map (sz d true)).sum : Int) ≤ v) → Tot (fun k x y => Bb_l0 (lv k) k (gi a 0) (gr a 1) (gr a 2) most x v i) (F9 true a most) := by
        intro d
        induction d using Nat.strongRecOn with | _ d ihd => ?_
        intro i v hd hi g1 g2 g3
        have hend : i = (gr a 1).length ∨ ¬ v ≤ most → Tot (fun k x y => Bb_l1 (lv k) k (gi a 0) (gr a 1) (gr a 2) most k v 0) (F9 true a most) := fun h => Tot.in0 (l1 _ 0 v rfl (by omega) g1 g2 (fun hv d => by
          rcases h with h | h
          · have := g3 hv d
            rw [h, List.take_length] at this
            simpa using this
          · exact absurd hv h))
        refine Tot.step0 (fun k x y => Bb_l0_q (lv k) k (gi a 0) (gr a 1) (gr a 2) most x v (i : Int)) ?_
        rw [Ag (x := most - v) (by omega) (by omega), Ag (x := (i : Int) + 1) (by omega) (by omega), Int.toNat_natCast]
        refine Tot.cond (fun hc => Tot.cond (fun hc2 => ?_) (fun hc2 => hend (.inr (of_decide_eq_false hc2)))) (fun hc => hend (.inl ?_))
        · have hc := of_decide_eq_true hc
          have hc2 := of_decide_eq_true hc2
          refine Tot.t (decide_eq_true (by omega)) (Tot.t (decide_eq_true (by omega)) ?_)
          refine Tot.bind (ih.1 _ _ (Gu hM (by omega : i < (gr a 1).length)) ((ha.gr 1).get i) (by omega) (by omega)) fun r hr => ?_
          obtain ⟨r1, r2, r3⟩ := hr
          rw [Ag (x := v + r) (by omega) (by omega)]
          refine ihd _ (by omega) (i + 1) (v + r) rfl (by omega) (by omega) (by omega) (fun hv d => ?_)
          have h1 := g3 (by omega) d
          have h2 := r3 (by omega) d
          rw [Mr _ _ _ [] (by omega)]
          omega
        · have hc := of_decide_eq_false hc
          omega
      exact Tot.in0 (l0 _ 0 1 rfl (by omega) (by omega) (by omega) (fun h d => by simp))
    · intro a most hM ha h0 h64
      have hl1 : (gr a 4).length ≤ 1048576 := (ha.gr 4).1
      have hl2 : (gr a 5).length ≤ 1048576 := (ha.gr 5).1
      refine Bg_up _ _ _ _ _ _ _ (Tot.congr ?_ (fun k _ _ => Bg_q (lv k) k (gi a 0) (gs a 1) (gs a 2) (gs a 3) (gr a 4) (gr a 5) most))
      have l1 : ∀ (d i : Nat) (v : Int), (gr a 5).length - i = d → i ≤ (gr a 5).length → 1 ≤ v → v ≤ most + 1 → (v ≤ most → ∀ d, 1 + (((gr a 4).map (sz d false)).sum : Int) + (((gr a 5).take i).map (sz d true)).sum ≤ v) → Tot (fun k x y => Bg_l1 (lv k) k (gi a 0) (gs a 1) (gs a 2) (gs a 3) (gr a 4) (gr a 5) most x v i) (F9 false a most) := by
        intro d
        induction d using Nat.strongRecOn with | _ d ihd => ?_
        intro i v hd hi g1 g2 g3
        have hend : i = (gr a 5).length ∨ ¬ v ≤ most → F9 false a most v := fun h => ⟨g1, g2, fun hv d => by
          rcases h with h | h
          · have := g3 hv (d - 1)
            rw [h, List.take_length] at this
            cases d with
            | zero => simp only [sz]; omega
            | succ d => simp only [sz]; simp only [Nat.add_sub_cancel] at this; omega
          · exact absurd hv h⟩
        refine Tot.step0 (fun k x y => Bg_l1_q (lv k) k (gi a 0) (gs a 1) (gs a 2) (gs a 3) (gr a 4) (gr a 5) most x v (i : Int)) ?_
        rw [Ag (x := most - v) (by omega) (by omega), Ag (x := (i : Int) + 1) (by omega) (by omega), Int.toNat_natCast]
        refine Tot.cond (fun hc => Tot.cond (fun hc2 => ?_) (fun hc2 => Tot.ret (hend (.inr (of_decide_eq_false hc2))))) (fun hc => Tot.ret (hend (.inl ?_)))
        · have hc := of_decide_eq_true hc
          have hc2 := of_decide_eq_true hc2
          refine Tot.t (decide_eq_true (by omega)) (Tot.t (decide_eq_true (by omega)) ?_)
          refine Tot.bind (ih.1 _ _ (Gu hM (by omega : i < (gr a 5).length)) ((ha.gr 5).get i) (by omega) (by omega)) fun r hr => ?_
          obtain ⟨r1, r2, r3⟩ := hr
          rw [Ag (x := v + r) (by omega) (by omega)]
          refine ihd _ (by omega) (i + 1) (v + r) rfl (by omega) (by omega) (by omega) (fun hv d => ?_)
          have h1 := g3 (by omega) d
          have h2 := r3 (by omega) d
          rw [Mr _ _ _ [] (by omega)]
          omega
        · have hc := of_decide_eq_false hc
          omega
      have l0 : ∀ (d i : Nat) (v : Int), (gr a 4).length - i = d → i ≤ (gr a 4).length → 1 ≤ v → v ≤ most + 1 → (v ≤ most → ∀ d, 1 + ((((gr a 4).take i).map (sz d false)).sum : Int) ≤ v) → Tot (fun k x y => Bg_l0 (lv k) k (gi a 0) (gs a 1) (gs a 2) (gs a 3) (gr a 4) (gr a 5) most x v i) (F9 false a most) := by
        intro d
        induction d using Nat.strongRecOn with | _ d ihd => ?_
        intro i v hd hi g1 g2 g3
        have hend : i = (gr a 4).length ∨ ¬ v ≤ most → Tot (fun k x y => Bg_l1 (lv k) k (gi a 0) (gs a 1) (gs a 2) (gs a 3) (gr a 4) (gr a 5) most k v 0) (F9 false a most) := fun h => Tot.in0 (l1 _ 0 v rfl (by omega) g1 g2 (fun hv d => by
          rcases h with h | h
          · have := g3 hv d
            rw [h, List.take_length] at this
            simpa using this
          · exact absurd hv h))
        refine Tot.step0 (fun k x y => Bg_l0_q (lv k) k (gi a 0) (gs a 1) (gs a 2) (gs a 3) (gr a 4) (gr a 5) most x v (i : Int)) ?_
        rw [Ag (x := most - v) (by omega) (by omega), Ag (x := (i : Int) + 1) (by omega) (by omega), Int.toNat_natCast]
        refine Tot.cond (fun hc => Tot.cond (fun hc2 => ?_) (fun hc2 => hend (.inr (of_decide_eq_false hc2)))) (fun hc => hend (.inl ?_))
        · have hc := of_decide_eq_true hc
          have hc2 := of_decide_eq_true hc2
          refine Tot.t (decide_eq_true (by omega)) (Tot.t (decide_eq_true (by omega)) ?_)
          refine Tot.bind (ih.2 _ _ (Gu hM (by omega : i < (gr a 4).length)) ((ha.gr 4).get i) (by omega) (by omega)) fun r hr => ?_
          obtain ⟨r1, r2, r3⟩ := hr
          rw [Ag (x := v + r) (by omega) (by omega)]
          refine ihd _ (by omega) (i + 1) (v + r) rfl (by omega) (by omega) (by omega) (fun hv d => ?_)
          have h1 := g3 (by omega) d
          have h2 := r3 (by omega) d
          rw [Mr _ _ _ [] (by omega)]
          omega
        · have hc := of_decide_eq_false hc
          omega
      exact Tot.in0 (l0 _ 0 1 rfl (by omega) (by omega) (by omega) (fun h d => by simp))
theorem Aa6 : ∀ d : Nat, d ≤ 100 →
    (∀ (a : List C), SmR BB a → Tot (fun k _ _ => (lv k).A8 (gi a 0) (gr a 1) (gr a 2) d) (fun r => r = true → ok d true a)) ∧
    (∀ (a : List C), SmR BB a → Tot (fun k _ _ => (lv k).Aj (gi a 0) (gs a 1) (gs a 2) (gs a 3) (gr a 4) (gr a 5) d) (fun r => r = true → ok d false a)) := by
  intro d
  induction d with
  | zero =>
    intro _
    constructor
    · intro a _
      refine A8_up _ _ _ _ (Tot.congr ?_ (fun k _ _ => A8_q (lv k) k (gi a 0) (gr a 1) (gr a 2) ((0 : Nat) : Int)))
      exact Tot.t (by rfl) (Tot.ret (fun h => by cases h))
    · intro a _
      refine Aj_up _ _ _ _ _ _ _ (Tot.congr ?_ (fun k _ _ => Aj_q (lv k) k (gi a 0) (gs a 1) (gs a 2) (gs a 3) (gr a 4) (gr a 5) ((0 : Nat) : Int)))
      exact Tot.t (by rfl) (Tot.ret (fun h => by cases h))
  | succ d ih =>
    intro hd
    have ih := ih (by omega)
    have hw : IntKind.i64.wrap (((d + 1 : Nat) : Int) - 1) = d := by rw [Ag (by omega) (by omega)]; omega
    have hne : (((d + 1 : Nat) : Int) == (0 : Int)) = false := by rw [beq_eq_false_iff_ne]; omega
    have iff_of : ∀ {x y m n : Int}, ¬ ((!((x == m) == (y == n))) = true) → (x = m ↔ y = n) := fun {x y m n} h => by
      have h : (x == m) = (y == n) := by simpa using h
      constructor
      · intro e
        have : (y == n) = true := by rw [← h, e]; simp
        exact eq_of_beq this
      · intro e
        have : (x == m) = true := by rw [h, e]; simp
        exact eq_of_beq this
    constructor
    · intro a ha
      have hl1 : (gr a 1).length ≤ 1048576 := (ha.gr 1).1
      have hl2 : (gr a 2).length ≤ 1048576 := (ha.gr 2).1
      refine A8_up _ _ _ _ (Tot.congr ?_ (fun k _ _ => A8_q (lv k) k (gi a 0) (gr a 1) (gr a 2) ((d + 1 : Nat) : Int)))
      refine Tot.f hne (Tot.cond (fun _ => Tot.ret (fun h => by cases h)) (fun h1 => Tot.cond (fun _ => Tot.ret (fun h => by cases h)) (fun h7 => ?_)))
      have h1 := of_decide_eq_false h1
      have h7 := of_decide_eq_false h7
      have key : ∀ v1 v2 : Int, (gi a 0 = 4 ∨ gi a 0 = 5 → v1 = 2 ∧ v2 = 64) → (gi a 0 = 6 → v1 = 1 ∧ v2 = 1) → (gi a 0 ≠ 4 → gi a 0 ≠ 5 → gi a 0 ≠ 6 → v1 = 0 ∧ v2 = 0) → Tot (fun k x y => A8_l0 (lv k) k (gi a 0) (gr a 1) (gr a 2) ((d + 1 : Nat) : Int) v1 v2) (fun r => r = true → ok (d + 1) true a) := by
        intro v1 v2 e1 e2 e3
        refine Tot.congr ?_ (fun k _ _ => A8_l0_q (lv k) k (gi a 0) (gr a 1) (gr a 2) ((d + 1 : Nat) : Int) v1 v2)
        refine Tot.cond (fun _ => Tot.ret (fun h => by cases h)) (fun g1 => Tot.cond (fun _ => Tot.ret (fun h => by cases h)) (fun g2 => Tot.cond (fun _ => Tot.ret (fun h => by cases h)) (fun g3 => Tot.cond (fun _ => Tot.ret (fun h => by cases h)) (fun g4 => ?_))))
        have g1 := of_decide_eq_false g1
        have g2 := of_decide_eq_false g2
        have g4 := of_decide_eq_false g4
        have g3 := iff_of (by rw [g3]; exact Bool.false_ne_true)
        have fin : (∀ j, j < (gr a 1).length → ok d true ((gr a 1).getD j [])) → (∀ j, j < (gr a 2).length → ok d false ((gr a 2).getD j [])) → ok (d + 1) true a := fun hs ht =>
          ⟨by omega, by omega, fun h => by have := e1 h; omega, fun h => by have := e2 h; omega, by rw [g3]; omega, by omega, by
            by_cases a4 : gi a 0 = 4 ∨ gi a 0 = 5
            · have := e1 a4; omega
            · by_cases a6 : gi a 0 = 6
              · have := e2 a6; omega
              · have := e3 (fun h => a4 (.inl h)) (fun h => a4 (.inr h)) a6; omega, fun a b c => by have := e3 a b c; omega, hs, ht⟩
        have loop : ∀ (n i : Nat), (gr a 1).length - i = n → i ≤ (gr a 1).length → (∀ j, j < i → ok d true ((gr a 1).getD j [])) → Tot (fun k x y => A8_l1 (lv k) k (gi a 0) (gr a 1) (gr a 2) ((d + 1 : Nat) : Int) x i) (fun r => r = true → ok (d + 1) true a) := by
          intro n
          induction n using Nat.strongRecOn with | _ n ihn => ?_
          intro i hn hi hj
          refine Tot.step0 (fun k x y => A8_l1_q (lv k) k (gi a 0) (gr a 1) (gr a 2) ((d + 1 : Nat) : Int) x i) ?_
          rw [hw, Ag (x := (i : Int) + 1) (by omega) (by omega), Int.toNat_natCast]
          refine Tot.cond (fun hc => ?_) (fun hc => Tot.cond (fun ht0 => ?_) (fun ht0 => ?_))
          · have hc := of_decide_eq_true hc
            refine Tot.t (decide_eq_true (by omega)) (Tot.t (decide_eq_true (by omega)) ?_)
            refine Tot.bind (ih.1 _ ((ha.gr 1).get i)) fun r hr1 => Tot.cond (fun _ => Tot.ret (fun h => by cases h)) (fun hb => ?_)
            have hb : r = true := by simpa using hb
            refine ihn _ (by omega) (i + 1) rfl (by omega) (fun j hjl => ?_)
            by_cases hjv : j = i
            · rw [hjv]; exact hr1 hb
            · exact hj j (by omega)
          · have hc := of_decide_eq_false hc
            have ht0 : (gr a 2).length = 0 := by simpa using ht0
            exact Tot.ret (fun _ => fin (fun j h => hj j (by omega)) (fun j h => by omega))
          · have hc := of_decide_eq_false hc
            have ht0 : (gr a 2).length ≠ 0 := by simpa using ht0
            refine Tot.t (decide_eq_true (by omega)) ?_
            refine Tot.bind (ih.2 _ ((ha.gr 2).get 0)) fun r hr => Tot.ret (fun hb => fin (fun j h => hj j (by omega)) (fun j h => ?_))
            rw [show j = 0 by omega]
            exact hr hb
        exact Tot.in0 (loop _ 0 rfl (by omega) (fun j hj => by omega))
      refine Tot.cond (fun h4 => ?_) (fun h4 => Tot.cond (fun h5 => ?_) (fun h5 => Tot.cond (fun h6 => ?_) (fun h6 => ?_)))
      · have h4 : gi a 0 = 4 := by simpa using h4
        exact Tot.f (by rw [beq_eq_false_iff_ne]; omega) (key 2 64 (fun _ => ⟨rfl, rfl⟩) (fun h => by omega) (fun h => by omega))
      · have h5 : gi a 0 = 5 := by simpa using h5
        exact Tot.f (by rw [beq_eq_false_iff_ne]; omega) (key 2 64 (fun _ => ⟨rfl, rfl⟩) (fun h => by omega) (fun _ h => by omega))
      · have h6 : gi a 0 = 6 := by simpa using h6
        exact key 1 1 (fun h => by omega) (fun _ => ⟨rfl, rfl⟩) (fun _ _ h => by omega)
      · have h4 : gi a 0 ≠ 4 := by simpa using h4
        have h5 : gi a 0 ≠ 5 := by simpa using h5
        have h6 : gi a 0 ≠ 6 := by simpa using h6
        exact key 0 0 (fun h => by omega) (fun h => by omega) (fun _ _ _ => ⟨rfl, rfl⟩)
    · intro a ha
      have hl1 : (gr a 4).length ≤ 1048576 := (ha.gr 4).1
      have hl2 : (gr a 5).length ≤ 1048576 := (ha.gr 5).1
      have no : Tot (fun _ _ _ => some false) (fun r => r = true → ok (d + 1) false a) := Tot.ret (fun h => by cases h)
      refine Aj_up _ _ _ _ _ _ _ (Tot.congr ?_ (fun k _ _ => Aj_q (lv k) k (gi a 0) (gs a 1) (gs a 2) (gs a 3) (gr a 4) (gr a 5) ((d + 1 : Nat) : Int)))
      refine Tot.f hne (Tot.cond (fun _ => no) (fun h1 => Tot.cond (fun _ => no) (fun h11 => ?_)))
      have h1 := of_decide_eq_false h1
      have h11 := of_decide_eq_false h11
      have l3 : ∀ v1 v2 : Int, (gi a 0 = 9 ∨ gi a 0 = 10 → v1 = 2 ∧ v2 = 64) → (gi a 0 = 8 → v1 = 1 ∧ v2 = 1) → (gi a 0 ≠ 8 → gi a 0 ≠ 9 → gi a 0 ≠ 10 → v1 = 0 ∧ v2 = 0) → Tot (fun k x y => Aj_l3 (lv k) k (gi a 0) (gs a 1) (gs a 2) (gs a 3) (gr a 4) (gr a 5) ((d + 1 : Nat) : Int) v1 v2) (fun r => r = true → ok (d + 1) false a) := by
        intro v1 v2 e1 e2 e3
        refine Tot.congr ?_ (fun k p_ q_ => Aj_l3_q (lv k) k (gi a 0) (gs a 1) (gs a 2) (gs a 3) (gr a 4) (gr a 5) ((d + 1 : Nat) : Int) v1 v2 )
        refine Tot.cond (fun _ => no) (fun g1 => Tot.cond (fun _ => no) (fun g2 => Tot.cond (fun _ => no) (fun g3 => Tot.cond (fun _ => no) (fun g4 => ?_))))
        have g1 := of_decide_eq_false g1
        have g2 := of_decide_eq_false g2
        have g4 := of_decide_eq_false g4
        have g3 := iff_of (by rw [g3]; exact Bool.false_ne_true)
        have fin : (∀ j, j < (gr a 4).length → ok d false ((gr a 4).getD j [])) → (∀ j, j < (gr a 5).length → ok d true ((gr a 5).getD j [])) → ok (d + 1) false a := fun hs ht =>
          ⟨by omega, by omega, fun h => by have := e2 h; omega, by
            by_cases a4 : gi a 0 = 9 ∨ gi a 0 = 10
            · have := e1 a4; omega
            · by_cases a6 : gi a 0 = 8
              · have := e2 a6; omega
              · have := e3 a6 (fun h => a4 (.inl h)) (fun h => a4 (.inr h)); omega, fun h => by have := e1 h; omega, fun a b c => by have := e3 a b c; omega, by rw [g3]; omega, by omega, hs, ht⟩
        refine Tot.in0 (Tot.loop (H := fun k x y v (_ : Unit) => Aj_l4 (lv k) k (gi a 0) (gs a 1) (gs a 2) (gs a 3) (gr a 4) (gr a 5) ((d + 1 : Nat) : Int) x v) (n := (gr a 4).length) (fun i _ => ∀ j, j < i → ok d false ((gr a 4).getD j [])) (by omega) (fun _ h => ?_) (fun i _ hi h next => ?_) _ 0 () rfl (by omega) (fun j hj => by omega))
        · refine Tot.step0 (fun k p_ q_ => Aj_l4_q (lv k) k (gi a 0) (gs a 1) (gs a 2) (gs a 3) (gr a 4) (gr a 5) ((d + 1 : Nat) : Int) p_ _) ?_
          refine Tot.f (decide_eq_false (by omega)) (Tot.cond (fun ht0 => ?_) (fun ht0 => ?_))
          · have ht0 : (gr a 5).length = 0 := by simpa using ht0
            exact Tot.ret (fun _ => fin h (fun j h => by omega))
          · have ht0 : (gr a 5).length ≠ 0 := by simpa using ht0
            refine Tot.t (decide_eq_true (by omega)) ?_
            rw [hw]
            refine Tot.bind (ih.1 _ ((ha.gr 5).get 0)) fun r hr => Tot.ret (fun hb => fin h (fun j h => ?_))
            rw [show j = 0 by omega]
            exact hr hb
        · refine Tot.step0 (fun k p_ q_ => Aj_l4_q (lv k) k (gi a 0) (gs a 1) (gs a 2) (gs a 3) (gr a 4) (gr a 5) ((d + 1 : Nat) : Int) p_ _) ?_
          rw [hw, Int.toNat_natCast]
          repeat (refine Tot.t (decide_eq_true (by omega)) ?_)
          refine Tot.bind (ih.2 _ ((ha.gr 4).get i)) fun r hr1 => Tot.cond (fun _ => no) (fun hb => next () (fun j hj => ?_))
          have hb : r = true := by simpa using hb
          rcases Nat.lt_or_ge j i with h2 | h2
          · exact h j h2
          · rw [show j = i by omega]; exact hr1 hb
      have l2 : ∀ v1 v2 : Int, (gi a 0 = 8 → v1 = 1 ∧ v2 = 1) → (gi a 0 ≠ 8 → v1 = 0 ∧ v2 = 0) → Tot (fun k x y => Aj_l2 (lv k) k (gi a 0) (gs a 1) (gs a 2) (gs a 3) (gr a 4) (gr a 5) ((d + 1 : Nat) : Int) v1 v2) (fun r => r = true → ok (d + 1) false a) := by
        intro v1 v2 e1 e2
        refine Tot.congr ?_ (fun k p_ q_ => Aj_l2_q (lv k) k (gi a 0) (gs a 1) (gs a 2) (gs a 3) (gr a 4) (gr a 5) ((d + 1 : Nat) : Int) v1 v2 )
        refine Tot.cond (fun h9 => ?_) (fun h9 => Tot.cond (fun h10 => ?_) (fun h10 => ?_))
        · have h9 : gi a 0 = 9 := by simpa using h9
          exact l3 2 64 (fun _ => ⟨rfl, rfl⟩) (fun h => by omega) (fun _ h => by omega)
        · have h10 : gi a 0 = 10 := by simpa using h10
          exact l3 2 64 (fun _ => ⟨rfl, rfl⟩) (fun h => by omega) (fun _ _ h => by omega)
        · have h9 : gi a 0 ≠ 9 := by simpa using h9
          have h10 : gi a 0 ≠ 10 := by simpa using h10
          exact l3 v1 v2 (fun h => by omega) e1 (fun h _ _ => e2 h)
      have e8 : Tot (fun k x y => cond (gi a 0 == (8 : Int)) (Aj_l2 (lv k) k (gi a 0) (gs a 1) (gs a 2) (gs a 3) (gr a 4) (gr a 5) ((d + 1 : Nat) : Int) 1 1) (Aj_l2 (lv k) k (gi a 0) (gs a 1) (gs a 2) (gs a 3) (gr a 4) (gr a 5) ((d + 1 : Nat) : Int) 0 0)) (fun r => r = true → ok (d + 1) false a) := by
        refine Tot.cond (fun h8 => ?_) (fun h8 => ?_)
        · have h8 : gi a 0 = 8 := by simpa using h8
          exact l2 1 1 (fun _ => ⟨rfl, rfl⟩) (fun h => absurd h8 h)
        · have h8 : gi a 0 ≠ 8 := by simpa using h8
          exact l2 0 0 (fun h => absurd h h8) (fun _ => ⟨rfl, rfl⟩)
      have l1 : ∀ v1, Tot (fun k x y => Aj_l1 (lv k) k (gi a 0) (gs a 1) (gs a 2) (gs a 3) (gr a 4) (gr a 5) ((d + 1 : Nat) : Int) v1) (fun r => r = true → ok (d + 1) false a) := fun v1 => by
        refine Tot.congr ?_ (fun k p_ q_ => Aj_l1_q (lv k) k (gi a 0) (gs a 1) (gs a 2) (gs a 3) (gr a 4) (gr a 5) ((d + 1 : Nat) : Int) v1 )
        repeat' first
          | exact no
          | exact e8
          | refine Tot.cond (fun _ => ?_) (fun _ => ?_)
          | refine Tot.bind (N8 _ (ha.gs 3)) fun _ _ => ?_
      have l0 : ∀ v1 v2, Tot (fun k x y => Aj_l0 (lv k) k (gi a 0) (gs a 1) (gs a 2) (gs a 3) (gr a 4) (gr a 5) ((d + 1 : Nat) : Int) v1 v2) (fun r => r = true → ok (d + 1) false a) := fun v1 v2 => by
        refine Tot.congr ?_ (fun k p_ q_ => Aj_l0_q (lv k) k (gi a 0) (gs a 1) (gs a 2) (gs a 3) (gr a 4) (gr a 5) ((d + 1 : Nat) : Int) v1 v2 )
        exact Tot.cond (fun _ => no) (fun _ => Tot.cond (fun _ => Tot.bind (Yi _ _ (ha.gs 1) (ha.gs 2)) fun r _ => Tot.cond (fun _ => no) (fun _ => l1 _)) (fun _ => l1 _))
      repeat' first
        | exact l0 _ _
        | refine Tot.cond (fun _ => ?_) (fun _ => ?_)
theorem Aa5 (a : List C) (ha : SmR BB a) : Tot (fun k _ _ => (lv k).Da (gi a 0) (gr a 1) (gr a 2)) (fun r => r = true → ok 16 true a ∧ ∀ d, sz d true a ≤ 64) := by
  refine Da_up _ _ _ (Tot.congr ?_ (fun k _ _ => Da_q (lv k) k (gi a 0) (gr a 1) (gr a 2)))
  refine Tot.bind (R := F9 true a 64) (Dk_up _ _ _ (Tot.congr (Tot.bind ((Ab0 _).1 a 64 (Nat.lt_succ_self _) ha (by omega) (by omega)) fun r hr => Tot.ret hr) (fun k _ _ => Dk_q (lv k) k (gi a 0) (gr a 1) (gr a 2)))) fun r hr => ?_
  refine Tot.cond (fun h => ?_) (fun _ => Tot.ret (fun h => by cases h))
  have h := of_decide_eq_true h
  exact Tot.bind ((Aa6 16 (by omega)).1 a ha) fun b hb => Tot.ret (fun hbt => ⟨hb hbt, fun d => by have := hr.2.2 h d; omega⟩)
def byt (s : ByteArray) (p : Int) : Int := ((s.data.getD p.toNat 0).toNat : Int)
theorem Eg (s : ByteArray) (p : Int) : 0 ≤ byt s p ∧ byt s p ≤ 255 := by
  have := (s.data.getD p.toNat 0).toNat_lt
  unfold byt
  omega
def cls (b : Int) : Nat := if b < 128 then 0 else if b < 192 then 4 else if b < 224 then 1 else if b < 240 then 2 else if b < 248 then 3 else 4
def msk : Nat → Int
  | 0 => 128 | 1 => 224 | 2 => 240 | _ => 248
def mrk : Nat → Int
  | 0 => 0 | 1 => 192 | 2 => 224 | _ => 240
def lst : Nat → Int
  | 0 => 0 | 1 => 128 | 2 => 2048 | _ => 65536
def Ff (s : ByteArray) (p : Int) : Nat → Int → Int → Int × Int
  | 0, v, h => (v, h)
  | k + 1, v, h => if p + h < (s.size : Int) ∧ 128 ≤ byt s (p + h) ∧ byt s (p + h) < 192 then Ff s p k (v * 64 + byt s (p + h) % 64) (h + 1) else (v, h)
def Hg (s : ByteArray) (p : Int) (n : Nat) (v h : Int) : Int × Int × Int :=
  if v * 64 ^ (n + 1 - h).toNat + (64 ^ (n + 1 - h).toNat - 1) < lst n then (0, 0, 2)
  else if v * 64 ^ (n + 1 - h).toNat > 1114111 then (0, 0, 2)
  else if v * 64 ^ (n + 1 - h).toNat ≥ 55296 ∧ v * 64 ^ (n + 1 - h).toNat + (64 ^ (n + 1 - h).toNat - 1) ≤ 57343 then (0, 0, 2)
  else if h = n + 1 then (v, h, 0)
  else if p + h = s.size then (0, 0, 7)
  else (0, 0, 2)
def Mn (s : ByteArray) (p : Int) : Int × Int × Int :=
  if p < 0 ∨ (s.size : Int) ≤ p then (0, 0, 7)
  else if cls (byt s p) ≤ 3 then Hg s p (cls (byt s p)) (Ff s p (cls (byt s p)) (byt s p - mrk (cls (byt s p))) 1).1 (Ff s p (cls (byt s p)) (byt s p - mrk (cls (byt s p))) 1).2
  else (0, 0, 2)
theorem O8 : ∀ b : Fin 256, ∀ n : Fin 4, (bits .and .u8 (b.val : Int) (msk n.val) != mrk n.val) = !decide (cls b.val = n.val) := by decide +kernel
theorem Uq (b : Int) (h0 : 0 ≤ b) (h1 : b ≤ 255) (n : Nat) (hn : n ≤ 3) (h : cls b ≠ n) : (bits .and .u8 b (msk n) != mrk n) = true := by
  obtain ⟨b, rfl⟩ := Int.eq_ofNat_of_zero_le h0
  rw [O8 ⟨b, by omega⟩ ⟨n, by omega⟩]; simpa using h
theorem Uo (b : Int) (h0 : 0 ≤ b) (h1 : b ≤ 255) (n : Nat) (hn : n ≤ 3) (h : cls b = n) : (bits .and .u8 b (msk n) != mrk n) = false := by
  obtain ⟨b, rfl⟩ := Int.eq_ofNat_of_zero_le h0
  rw [O8 ⟨b, by omega⟩ ⟨n, by omega⟩]; simpa using h
theorem Yn : ∀ b : Fin 256, ∀ n : Fin 4, cls b.val = n.val → bits .andNot .u8 (b.val : Int) (msk n.val) = b.val - mrk n.val := by decide +kernel
theorem Un (b : Int) (h0 : 0 ≤ b) (h1 : b ≤ 255) (n : Nat) (hn : n ≤ 3) (h : cls b = n) : bits .andNot .u8 b (msk n) = b - mrk n := by
  obtain ⟨b, rfl⟩ := Int.eq_ofNat_of_zero_le h0
  exact Yn ⟨b, by omega⟩ ⟨n, by omega⟩ h
theorem Ts : ∀ b : Fin 256, (bits .and .u8 (b.val : Int) 192 == 128) = decide (128 ≤ b.val ∧ b.val < 192) := by decide +kernel
theorem Ack (b : Int) (h : 128 ≤ b ∧ b < 192) : (bits .and .u8 b 192 == 128) = true := by
  obtain ⟨b, rfl⟩ := Int.eq_ofNat_of_zero_le (a := b) (by omega)
  rw [Ts ⟨b, by omega⟩]; simp; omega
theorem Acj (b : Int) (h0 : 0 ≤ b) (h1 : b ≤ 255) (h : ¬ (128 ≤ b ∧ b < 192)) : (bits .and .u8 b 192 == 128) = false := by
  obtain ⟨b, rfl⟩ := Int.eq_ofNat_of_zero_le (a := b) (by omega)
  rw [Ts ⟨b, by omega⟩]; simp; omega
theorem V1 (b : Int) (h0 : 0 ≤ b) (h1 : b ≤ 255) (h : cls b ≤ 3) : 0 ≤ b - mrk (cls b) ∧ b - mrk (cls b) < 128 ∧ (cls b ≤ 2 ∧ 1 ≤ cls b → b - mrk (cls b) < 32) ∧ (cls b = 2 → b - mrk (cls b) < 16) ∧ (cls b = 3 → b - mrk (cls b) < 8) := by
  unfold cls at *
  repeat' split at h <;> simp [*, mrk] <;> try omega
  all_goals (simp [*, mrk]; try omega)
def Rn (b0 b1 b2 b3 n : Int) : Int × Int × Int :=
  if b0 < 128 then (b0, 1, 0)
  else if b0 < 194 then (0, 0, 2)
  else if b0 < 224 then
    if n = 1 then (0, 0, 7) else if 128 ≤ b1 ∧ b1 < 192 then ((b0 - 192) * 64 + (b1 - 128), 2, 0) else (0, 0, 2)
  else if b0 < 240 then
    if n = 1 then (0, 0, 7) else if ¬ (128 ≤ b1 ∧ b1 < 192) then (0, 0, 2)
    else if b0 = 224 ∧ b1 < 160 ∨ b0 = 237 ∧ 160 ≤ b1 then (0, 0, 2)
    else if n = 2 then (0, 0, 7) else if 128 ≤ b2 ∧ b2 < 192 then ((b0 - 224) * 4096 + (b1 - 128) * 64 + (b2 - 128), 3, 0) else (0, 0, 2)
  else if b0 < 245 then
    if n = 1 then (0, 0, 7) else if ¬ (128 ≤ b1 ∧ b1 < 192) then (0, 0, 2)
    else if b0 = 240 ∧ b1 < 144 ∨ b0 = 244 ∧ 144 ≤ b1 then (0, 0, 2)
    else if n = 2 then (0, 0, 7) else if ¬ (128 ≤ b2 ∧ b2 < 192) then (0, 0, 2)
    else if n = 3 then (0, 0, 7) else if 128 ≤ b3 ∧ b3 < 192 then ((b0 - 240) * 262144 + (b1 - 128) * 4096 + (b2 - 128) * 64 + (b3 - 128), 4, 0) else (0, 0, 2)
  else (0, 0, 2)
def Bt (s : ByteArray) (p : Int) : Int × Int × Int :=
  if p < 0 ∨ (s.size : Int) ≤ p then (0, 0, 7) else Rn (byt s p) (byt s (p + 1)) (byt s (p + 2)) (byt s (p + 3)) (s.size - p)
theorem Fj (s : ByteArray) (p : Int) (n : Nat) (v h : Int) (t : Nat) (L H : Int) (ht : ((n : Int) + 1 - h).toNat = t) (hL : v * 64 ^ t = L) (hH : L + (64 ^ t - 1) = H) :
    Hg s p n v h = if H < lst n then (0, 0, 2) else if L > 1114111 then (0, 0, 2) else if L ≥ 55296 ∧ H ≤ 57343 then (0, 0, 2) else if h = n + 1 then (v, h, 0) else if p + h = s.size then (0, 0, 7) else (0, 0, 2) := by
  unfold Hg
  rw [ht, hL, hH]
theorem Abn (s : ByteArray) (p : Int) : Mn s p = Bt s p := by
  unfold Mn Bt
  split
  · rfl
  rename_i hp
  have r0 := Eg s p
  have r1 := Eg s (p + 1)
  have r2 := Eg s (p + 2)
  have r3 := Eg s (p + 3)
  have e2 : p + (1 + 1) = p + 2 := by omega
  have e3 : p + (1 + 1 + 1) = p + 3 := by omega
  generalize hb0 : byt s p = b0 at *
  generalize hb1 : byt s (p + 1) = b1 at *
  generalize hb2 : byt s (p + 2) = b2 at *
  generalize hb3 : byt s (p + 3) = b3 at *
  have hc : (b0 < 128 ∧ cls b0 = 0) ∨ (128 ≤ b0 ∧ b0 < 192 ∧ cls b0 = 4) ∨ (192 ≤ b0 ∧ b0 < 224 ∧ cls b0 = 1) ∨ (224 ≤ b0 ∧ b0 < 240 ∧ cls b0 = 2) ∨ (240 ≤ b0 ∧ b0 < 248 ∧ cls b0 = 3) ∨ (248 ≤ b0 ∧ cls b0 = 4) := by
    unfold cls
    by_cases h1 : b0 < 128
    · simp [h1]
    by_cases h2 : b0 < 192
    · simp [h1, h2]; omega
    by_cases h3 : b0 < 224
    · simp [h1, h2, h3]; omega
    by_cases h4 : b0 < 240
    · simp [h1, h2, h3, h4]; omega
    by_cases h5 : b0 < 248
    · simp [h1, h2, h3, h4, h5]; omega
    · simp [h1, h2, h3, h4, h5]; omega
  rcases hc with ⟨h, hc⟩ | ⟨h, h', hc⟩ | ⟨h, h', hc⟩ | ⟨h, h', hc⟩ | ⟨h, h', hc⟩ | ⟨h, hc⟩
  · rw [hc, if_pos (by omega)]
    simp only [Ff, mrk]
    rw [Fj s p 0 (b0 - 0) 1 0 (b0 - 0) (b0 - 0) (by decide) (by simp) (by simp)]
    simp only [lst, Rn]
    rw [if_neg (by omega), if_neg (by omega), if_neg (by omega), if_pos (by decide), if_pos h]
    simp
  · rw [hc, if_neg (by omega)]
    simp only [Rn]
    rw [if_neg (by omega), if_pos (by omega)]
  · rw [hc, if_pos (by omega)]
    simp only [Ff, mrk]
    by_cases ht : p + 1 < (s.size : Int) ∧ 128 ≤ b1 ∧ b1 < 192
    · rw [hb1, if_pos ht]
      simp only
      rw [Fj s p 1 _ (1 + 1) 0 _ _ (by decide) (Int.mul_one _) (by simp; rfl)]
      simp only [lst, Rn]
      rw [if_neg (show ¬ b0 < 128 by omega)]
      by_cases hl : b0 < 194
      · rw [if_pos (by omega), if_pos hl]
      · rw [if_neg (by omega), if_neg (by omega), if_neg (by omega), if_pos (by decide), if_neg hl, if_pos h', if_neg (by omega), if_pos ht.2]
        simp only [Prod.mk.injEq, and_true]
        omega
    · rw [hb1, if_neg ht]
      simp only
      rw [Fj s p 1 _ 1 1 _ _ (by decide) rfl rfl]
      simp only [lst, Rn]
      rw [if_neg (show ¬ b0 < 128 by omega)]
      by_cases hl : b0 < 194
      · rw [if_pos (by omega), if_pos hl]
      · rw [if_neg (by omega), if_neg (by omega), if_neg (by omega), if_neg (by decide), if_neg hl, if_pos h']
        by_cases hn : p + 1 = s.size
        · rw [if_pos hn, if_pos (by omega)]
        · rw [if_neg hn, if_neg (by omega), if_neg (by omega)]
  · rw [hc, if_pos (by omega)]
    simp only [Ff, mrk]
    simp only [Rn]
    rw [if_neg (show ¬ b0 < 128 by omega), if_neg (show ¬ b0 < 194 by omega), if_neg (show ¬ b0 < 224 by omega), if_pos h']
    by_cases t1 : p + 1 < (s.size : Int) ∧ 128 ≤ b1 ∧ b1 < 192
    · rw [hb1, if_pos t1, e2, hb2]
      by_cases t2 : p + 2 < (s.size : Int) ∧ 128 ≤ b2 ∧ b2 < 192
      · rw [if_pos t2, if_neg (by omega), if_neg (by omega)]
        simp only
        rw [Fj s p 2 _ (1 + 1 + 1) 0 _ _ (by decide) (Int.mul_one _) (by simp; rfl)]
        simp only [lst]
        by_cases bad : b0 = 224 ∧ b1 < 160 ∨ b0 = 237 ∧ 160 ≤ b1
        · rw [if_pos bad]
          by_cases z : b0 = 224
          · rw [if_pos (by omega)]
          · rw [if_neg (by omega), if_neg (by omega), if_pos (by omega)]
        · rw [if_neg bad, if_neg (show ¬ (s.size : Int) - p = 2 by omega), if_pos t2.2, if_neg (by omega), if_neg (by omega), if_neg (by omega), if_pos (by decide)]
          simp only [Prod.mk.injEq, and_true]
          omega
      · rw [if_neg t2, if_neg (by omega), if_neg (by omega)]
        simp only
        rw [Fj s p 2 _ (1 + 1) 1 _ _ (by decide) rfl rfl]
        simp only [lst]
        by_cases bad : b0 = 224 ∧ b1 < 160 ∨ b0 = 237 ∧ 160 ≤ b1
        · rw [if_pos bad]
          by_cases z : b0 = 224
          · rw [if_pos (by omega)]
          · rw [if_neg (by omega), if_neg (by omega), if_pos (by omega)]
        · rw [if_neg bad, if_neg (by omega), if_neg (by omega), if_neg (by omega), if_neg (by decide)]
          by_cases hn : p + 2 = s.size
          · rw [if_pos (by omega), if_pos (by omega)]
          · rw [if_neg (by omega), if_neg (by omega), if_neg (by omega)]
    · rw [hb1, if_neg t1]
      simp only
      rw [Fj s p 2 _ 1 2 _ _ (by decide) rfl rfl]
      simp only [lst]
      rw [if_neg (by omega), if_neg (by omega), if_neg (by omega), if_neg (by decide)]
      by_cases hn : p + 1 = s.size
      · rw [if_pos hn, if_pos (by omega)]
      · rw [if_neg hn, if_neg (by omega), if_pos (by omega)]
  · rw [hc, if_pos (by omega)]
    simp only [Ff, mrk]
    simp only [Rn]
    rw [if_neg (show ¬ b0 < 128 by omega), if_neg (show ¬ b0 < 194 by omega), if_neg (show ¬ b0 < 224 by omega), if_neg (show ¬ b0 < 240 by omega)]
    by_cases big : b0 < 245
    · rw [if_pos big]
      by_cases t1 : p + 1 < (s.size : Int) ∧ 128 ≤ b1 ∧ b1 < 192
      · rw [hb1, if_pos t1, e2, hb2]
        by_cases t2 : p + 2 < (s.size : Int) ∧ 128 ≤ b2 ∧ b2 < 192
        · rw [if_pos t2, e3, hb3]
          by_cases t3 : p + 3 < (s.size : Int) ∧ 128 ≤ b3 ∧ b3 < 192
          · rw [if_pos t3, if_neg (by omega), if_neg (by omega)]
            simp only
            rw [Fj s p 3 _ (1 + 1 + 1 + 1) 0 _ _ (by decide) (Int.mul_one _) (by simp; rfl)]
            simp only [lst]
            by_cases bad : b0 = 240 ∧ b1 < 144 ∨ b0 = 244 ∧ 144 ≤ b1
            · rw [if_pos bad]
              by_cases z : b0 = 240
              · rw [if_pos (by omega)]
              · rw [if_neg (by omega), if_pos (by omega)]
            · rw [if_neg bad, if_neg (show ¬ (s.size : Int) - p = 2 by omega), if_neg (show ¬ ¬ (128 ≤ b2 ∧ b2 < 192) by omega), if_neg (show ¬ (s.size : Int) - p = 3 by omega), if_pos t3.2, if_neg (by omega), if_neg (by omega), if_neg (by omega), if_pos (by decide)]
              simp only [Prod.mk.injEq, and_true]
              omega
          · rw [if_neg t3, if_neg (by omega), if_neg (by omega)]
            simp only
            rw [Fj s p 3 _ (1 + 1 + 1) 1 _ _ (by decide) rfl rfl]
            simp only [lst]
            by_cases bad : b0 = 240 ∧ b1 < 144 ∨ b0 = 244 ∧ 144 ≤ b1
            · rw [if_pos bad]
              by_cases z : b0 = 240
              · rw [if_pos (by omega)]
              · rw [if_neg (by omega), if_pos (by omega)]
            · rw [if_neg bad, if_neg (show ¬ (s.size : Int) - p = 2 by omega), if_neg (show ¬ ¬ (128 ≤ b2 ∧ b2 < 192) by omega), if_neg (by omega), if_neg (by omega), if_neg (by omega), if_neg (by decide)]
              by_cases hn : p + 3 = s.size
              · rw [if_pos (by omega), if_pos (by omega)]
              · rw [if_neg (by omega), if_neg (by omega), if_neg (by omega)]
        · rw [if_neg t2, if_neg (by omega), if_neg (by omega)]
          simp only
          rw [Fj s p 3 _ (1 + 1) 2 _ _ (by decide) rfl rfl]
          simp only [lst]
          by_cases bad : b0 = 240 ∧ b1 < 144 ∨ b0 = 244 ∧ 144 ≤ b1
          · rw [if_pos bad]
            by_cases z : b0 = 240
            · rw [if_pos (by omega)]
            · rw [if_neg (by omega), if_pos (by omega)]
          · rw [if_neg bad, if_neg (by omega), if_neg (by omega), if_neg (by omega), if_neg (by decide)]
            by_cases hn : p + 2 = s.size
            · rw [if_pos (by omega), if_pos (by omega)]
            · rw [if_neg (by omega), if_neg (by omega), if_pos (by omega)]
      · rw [hb1, if_neg t1]
        simp only
        rw [Fj s p 3 _ 1 3 _ _ (by decide) rfl rfl]
        simp only [lst]
        rw [if_neg (by omega), if_neg (by omega), if_neg (by omega), if_neg (by decide)]
        by_cases hn : p + 1 = s.size
        · rw [if_pos hn, if_pos (by omega)]
        · rw [if_neg hn, if_neg (by omega), if_pos (by omega)]
    · rw [if_neg big]
      by_cases t1 : p + 1 < (s.size : Int) ∧ 128 ≤ b1 ∧ b1 < 192
      · rw [hb1, if_pos t1, e2, hb2]
        by_cases t2 : p + 2 < (s.size : Int) ∧ 128 ≤ b2 ∧ b2 < 192
        · rw [if_pos t2, e3, hb3]
          by_cases t3 : p + 3 < (s.size : Int) ∧ 128 ≤ b3 ∧ b3 < 192
          · rw [if_pos t3]
            simp only
            rw [Fj s p 3 _ (1 + 1 + 1 + 1) 0 _ _ (by decide) (Int.mul_one _) (by simp; rfl)]
            simp only [lst]
            rw [if_neg (by omega), if_pos (by omega)]
          · rw [if_neg t3]
            simp only
            rw [Fj s p 3 _ (1 + 1 + 1) 1 _ _ (by decide) rfl rfl]
            simp only [lst]
            rw [if_neg (by omega), if_pos (by omega)]
        · rw [if_neg t2]
          simp only
          rw [Fj s p 3 _ (1 + 1) 2 _ _ (by decide) rfl rfl]
          simp only [lst]
          rw [if_neg (by omega), if_pos (by omega)]
      · rw [hb1, if_neg t1]
        simp only
        rw [Fj s p 3 _ 1 3 _ _ (by decide) rfl rfl]
        simp only [lst]
        rw [if_neg (by omega), if_pos (by omega)]
  · rw [hc, if_neg (by omega)]
    simp only [Rn]
    rw [if_neg (by omega), if_neg (by omega), if_neg (by omega), if_neg (by omega), if_neg (by omega)]
def Dr (r : Int) : List Int :=
  if r < 0 ∨ r > 1114111 ∨ (55296 ≤ r ∧ r ≤ 57343) then [] else if r < 128 then [r] else if r < 2048 then [192 + r / 64, 128 + r % 64]
  else if r < 65536 then [224 + r / 4096, 128 + r / 64 % 64, 128 + r % 64] else [240 + r / 262144, 128 + r / 4096 % 64, 128 + r / 64 % 64, 128 + r % 64]
def beg (s : ByteArray) (p : Int) (l : List Int) : Bool := decide (l ≠ []) && decide (p + l.length ≤ s.size) && (List.range l.length).all fun i => byt s (p + i) == l.getD i 0
def Nk (b0 b1 b2 n : Int) : Bool :=
  if n = 1 then decide (194 ≤ b0 ∧ b0 < 245)
  else if n = 2 then decide ((128 ≤ b1 ∧ b1 < 192) ∧ ((224 ≤ b0 ∧ b0 < 240 ∧ ¬ (b0 = 224 ∧ b1 < 160) ∧ ¬ (b0 = 237 ∧ 160 ≤ b1)) ∨ (240 ≤ b0 ∧ b0 < 245 ∧ ¬ (b0 = 240 ∧ b1 < 144) ∧ ¬ (b0 = 244 ∧ 144 ≤ b1))))
  else if n = 3 then decide ((128 ≤ b1 ∧ b1 < 192) ∧ (128 ≤ b2 ∧ b2 < 192) ∧ (240 ≤ b0 ∧ b0 < 245 ∧ ¬ (b0 = 240 ∧ b1 < 144) ∧ ¬ (b0 = 244 ∧ 144 ≤ b1)))
  else false
theorem Aaf (r : Int) (h : (Dr r).length = 2) : 128 ≤ r ∧ r < 2048 := by
  unfold Dr at h
  repeat' split at h
  all_goals first | (simp at h; done) | omega
theorem Aag (r : Int) (h : (Dr r).length = 3) : 2048 ≤ r ∧ r < 65536 ∧ ¬ (55296 ≤ r ∧ r ≤ 57343) := by
  unfold Dr at h
  repeat' split at h
  all_goals first | (simp at h; done) | omega
theorem Aah (r : Int) (h : (Dr r).length = 4) : 65536 ≤ r ∧ r ≤ 1114111 := by
  unfold Dr at h
  repeat' split at h
  all_goals first | (simp at h; done) | omega
theorem Aae (r : Int) (h : (Dr r).length = 1) : 0 ≤ r ∧ r < 128 := by
  unfold Dr at h
  repeat' split at h
  all_goals first | (simp at h; done) | omega
theorem Sf (r : Int) (h : 0 ≤ r ∧ r < 128) : Dr r = [r] := by
  unfold Dr; rw [if_neg (by omega), if_pos (by omega)]
theorem Sg (r : Int) (h : 128 ≤ r ∧ r < 2048) : Dr r = [192 + r / 64, 128 + r % 64] := by
  unfold Dr; rw [if_neg (by omega), if_neg (by omega), if_pos (by omega)]
theorem Sh (r : Int) (h : 2048 ≤ r ∧ r < 65536 ∧ ¬ (55296 ≤ r ∧ r ≤ 57343)) : Dr r = [224 + r / 4096, 128 + r / 64 % 64, 128 + r % 64] := by
  unfold Dr; rw [if_neg (by omega), if_neg (by omega), if_neg (by omega), if_pos (by omega)]
theorem Si (r : Int) (h : 65536 ≤ r ∧ r ≤ 1114111) : Dr r = [240 + r / 262144, 128 + r / 4096 % 64, 128 + r / 64 % 64, 128 + r % 64] := by
  unfold Dr; rw [if_neg (by omega), if_neg (by omega), if_neg (by omega), if_neg (by omega)]
theorem Kf (s : ByteArray) (p : Int) (l : List Int) : beg s p l = true ↔ l ≠ [] ∧ p + l.length ≤ s.size ∧ ∀ i : Nat, i < l.length → byt s (p + i) = l.getD i 0 := by
  unfold beg
  simp only [Bool.and_eq_true, decide_eq_true_eq, List.all_eq_true, List.mem_range, beq_iff_eq, and_assoc]
theorem Aaj (b : Int) (h0 : 0 ≤ b) (h1 : b ≤ 255) : (Dr b).length = 1 ↔ b < 128 := by
  constructor
  · intro h; exact (Aae b h).2
  · intro h; rw [Sf b ⟨h0, h⟩]; rfl
theorem Qx (s : ByteArray) (p : Int) (hf : p + 2 ≤ s.size) : (((Dr ((byt s p - 192) * 64 + (byt s (p + 1) - 128))).length : Int) = 2 ∧ beg s p (Dr ((byt s p - 192) * 64 + (byt s (p + 1) - 128))) = true) ↔
    (194 ≤ byt s p ∧ byt s p < 224 ∧ 128 ≤ byt s (p + 1) ∧ byt s (p + 1) < 192) := by
  have b0 := Eg s p
  have b1 := Eg s (p + 1)
  rw [Kf]
  constructor
  · rintro ⟨hl, _, _, hb⟩
    have hr := Aaf _ (show (Dr ((byt s p - 192) * 64 + (byt s (p + 1) - 128))).length = 2 by omega)
    rw [Sg _ hr] at hb
    have e0 := hb 0 (by simp)
    have e1 := hb 1 (by simp)
    simp at e0 e1
    omega
  · intro h
    rw [Sg _ (by omega)]
    refine ⟨rfl, by simp, by simp; omega, fun i hi => ?_⟩
    have : i = 0 ∨ i = 1 := by simp at hi; omega
    rcases this with rfl | rfl
    · simp; omega
    · simp; omega
theorem Qy (s : ByteArray) (p : Int) (hf : p + 3 ≤ s.size) : (((Dr (((byt s p - 224) * 64 + (byt s (p + 1) - 128)) * 64 + (byt s (p + 2) - 128))).length : Int) = 3 ∧ beg s p (Dr (((byt s p - 224) * 64 + (byt s (p + 1) - 128)) * 64 + (byt s (p + 2) - 128))) = true) ↔
    (224 ≤ byt s p ∧ byt s p < 240 ∧ (128 ≤ byt s (p + 1) ∧ byt s (p + 1) < 192) ∧ ¬ (byt s p = 224 ∧ byt s (p + 1) < 160 ∨ byt s p = 237 ∧ 160 ≤ byt s (p + 1)) ∧ 128 ≤ byt s (p + 2) ∧ byt s (p + 2) < 192) := by
  have b0 := Eg s p
  have b1 := Eg s (p + 1)
  have b2 := Eg s (p + 2)
  rw [Kf]
  constructor
  · rintro ⟨hl, _, _, hb⟩
    have hr := Aag _ (show (Dr (((byt s p - 224) * 64 + (byt s (p + 1) - 128)) * 64 + (byt s (p + 2) - 128))).length = 3 by omega)
    rw [Sh _ hr] at hb
    have e0 := hb 0 (by simp)
    have e1 := hb 1 (by simp)
    have e2 := hb 2 (by simp)
    simp at e0 e1 e2
    omega
  · intro h
    rw [Sh _ (by omega)]
    refine ⟨rfl, by simp, by simp; omega, fun i hi => ?_⟩
    have : i = 0 ∨ i = 1 ∨ i = 2 := by simp at hi; omega
    rcases this with rfl | rfl | rfl
    · simp; omega
    · simp; omega
    · simp; omega
theorem Qz (s : ByteArray) (p : Int) (hf : p + 4 ≤ s.size) : (((Dr ((((byt s p - 240) * 64 + (byt s (p + 1) - 128)) * 64 + (byt s (p + 2) - 128)) * 64 + (byt s (p + 3) - 128))).length : Int) = 4 ∧ beg s p (Dr ((((byt s p - 240) * 64 + (byt s (p + 1) - 128)) * 64 + (byt s (p + 2) - 128)) * 64 + (byt s (p + 3) - 128))) = true) ↔
    (240 ≤ byt s p ∧ byt s p < 245 ∧ (128 ≤ byt s (p + 1) ∧ byt s (p + 1) < 192) ∧ ¬ (byt s p = 240 ∧ byt s (p + 1) < 144 ∨ byt s p = 244 ∧ 144 ≤ byt s (p + 1)) ∧ (128 ≤ byt s (p + 2) ∧ byt s (p + 2) < 192) ∧ 128 ≤ byt s (p + 3) ∧ byt s (p + 3) < 192) := by
  have b0 := Eg s p
  have b1 := Eg s (p + 1)
  have b2 := Eg s (p + 2)
  have b3 := Eg s (p + 3)
  rw [Kf]
  constructor
  · rintro ⟨hl, _, _, hb⟩
    have hr := Aah _ (show (Dr ((((byt s p - 240) * 64 + (byt s (p + 1) - 128)) * 64 + (byt s (p + 2) - 128)) * 64 + (byt s (p + 3) - 128))).length = 4 by omega)
    rw [Si _ hr] at hb
    have e0 := hb 0 (by simp)
    have e1 := hb 1 (by simp)
    have e2 := hb 2 (by simp)
    have e3 := hb 3 (by simp)
    simp at e0 e1 e2 e3
    omega
  · intro h
    rw [Si _ (by omega)]
    refine ⟨rfl, by simp, by simp; omega, fun i hi => ?_⟩
    have : i = 0 ∨ i = 1 ∨ i = 2 ∨ i = 3 := by simp at hi; omega
    rcases this with rfl | rfl | rfl | rfl
    · simp; omega
    · simp; omega
    · simp; omega
    · simp; omega
theorem O3 (b0 b1 b2 b3 n : Int) (h0 : 0 ≤ b0) (h0' : b0 ≤ 255) (hn : 1 ≤ n) : Rn b0 b1 b2 b3 n =
    if b0 < 128 then (b0, 1, 0) else if 2 ≤ n ∧ 194 ≤ b0 ∧ b0 < 224 ∧ 128 ≤ b1 ∧ b1 < 192 then ((b0 - 192) * 64 + (b1 - 128), 2, 0)
    else if 3 ≤ n ∧ 224 ≤ b0 ∧ b0 < 240 ∧ (128 ≤ b1 ∧ b1 < 192) ∧ ¬ (b0 = 224 ∧ b1 < 160 ∨ b0 = 237 ∧ 160 ≤ b1) ∧ 128 ≤ b2 ∧ b2 < 192 then (((b0 - 224) * 64 + (b1 - 128)) * 64 + (b2 - 128), 3, 0)
    else if 4 ≤ n ∧ 240 ≤ b0 ∧ b0 < 245 ∧ (128 ≤ b1 ∧ b1 < 192) ∧ ¬ (b0 = 240 ∧ b1 < 144 ∨ b0 = 244 ∧ 144 ≤ b1) ∧ (128 ≤ b2 ∧ b2 < 192) ∧ 128 ≤ b3 ∧ b3 < 192 then ((((b0 - 240) * 64 + (b1 - 128)) * 64 + (b2 - 128)) * 64 + (b3 - 128), 4, 0)
    else if Nk b0 b1 b2 n = true then (0, 0, 7) else (0, 0, 2) := by
  have hc : Nk b0 b1 b2 n = true ↔ (n = 1 ∧ 194 ≤ b0 ∧ b0 < 245) ∨ (n = 2 ∧ (128 ≤ b1 ∧ b1 < 192) ∧ ((224 ≤ b0 ∧ b0 < 240 ∧ ¬ (b0 = 224 ∧ b1 < 160) ∧ ¬ (b0 = 237 ∧ 160 ≤ b1)) ∨ (240 ≤ b0 ∧ b0 < 245 ∧ ¬ (b0 = 240 ∧ b1 < 144) ∧ ¬ (b0 = 244 ∧ 144 ≤ b1))))
      ∨ (n = 3 ∧ (128 ≤ b1 ∧ b1 < 192) ∧ (128 ≤ b2 ∧ b2 < 192) ∧ (240 ≤ b0 ∧ b0 < 245 ∧ ¬ (b0 = 240 ∧ b1 < 144) ∧ ¬ (b0 = 244 ∧ 144 ≤ b1))) := by
    unfold Nk
    by_cases h1 : n = 1
    · rw [if_pos h1, decide_eq_true_eq]; omega
    by_cases h2 : n = 2
    · rw [if_neg h1, if_pos h2, decide_eq_true_eq]; omega
    by_cases h3 : n = 3
    · rw [if_neg h1, if_neg h2, if_pos h3, decide_eq_true_eq]; omega
    · rw [if_neg h1, if_neg h2, if_neg h3]; simp [h1, h2, h3]
  unfold Rn
  by_cases a1 : b0 < 128
  · rw [if_pos a1, if_pos a1]
  rw [if_neg a1, if_neg a1]
  by_cases a2 : b0 < 194
  · rw [if_pos a2, if_neg (by omega), if_neg (by omega), if_neg (by omega), if_neg (by rw [hc]; omega)]
  rw [if_neg a2]
  by_cases a3 : b0 < 224
  · rw [if_pos a3]
    by_cases hn1 : n = 1
    · rw [if_pos hn1, if_neg (by omega), if_neg (by omega), if_neg (by omega), if_pos (by rw [hc]; omega)]
    rw [if_neg hn1]
    by_cases t1 : 128 ≤ b1 ∧ b1 < 192
    · rw [if_pos t1, if_pos (by omega)]
    · rw [if_neg t1, if_neg (by omega), if_neg (by omega), if_neg (by omega), if_neg (by rw [hc]; omega)]
  rw [if_neg a3]
  by_cases a4 : b0 < 240
  · rw [if_pos a4]
    by_cases hn1 : n = 1
    · rw [if_pos hn1, if_neg (by omega), if_neg (by omega), if_neg (by omega), if_pos (by rw [hc]; omega)]
    rw [if_neg hn1]
    by_cases t1 : 128 ≤ b1 ∧ b1 < 192
    · rw [if_neg (by omega)]
      by_cases bad : b0 = 224 ∧ b1 < 160 ∨ b0 = 237 ∧ 160 ≤ b1
      · rw [if_pos bad, if_neg (by omega), if_neg (by omega), if_neg (by omega), if_neg (by rw [hc]; omega)]
      rw [if_neg bad]
      by_cases hn2 : n = 2
      · rw [if_pos hn2, if_neg (by omega), if_neg (by omega), if_neg (by omega), if_pos (by rw [hc]; omega)]
      rw [if_neg hn2]
      by_cases t2 : 128 ≤ b2 ∧ b2 < 192
      · rw [if_pos t2, if_neg (by omega), if_pos (by omega)]
        simp only [Prod.mk.injEq, and_true]
        omega
      · rw [if_neg t2, if_neg (by omega), if_neg (by omega), if_neg (by omega), if_neg (by rw [hc]; omega)]
    · rw [if_pos t1, if_neg (by omega), if_neg (by omega), if_neg (by omega), if_neg (by rw [hc]; omega)]
  rw [if_neg a4]
  by_cases a5 : b0 < 245
  · rw [if_pos a5]
    by_cases hn1 : n = 1
    · rw [if_pos hn1, if_neg (by omega), if_neg (by omega), if_neg (by omega), if_pos (by rw [hc]; omega)]
    rw [if_neg hn1]
    by_cases t1 : 128 ≤ b1 ∧ b1 < 192
    · rw [if_neg (by omega)]
      by_cases bad : b0 = 240 ∧ b1 < 144 ∨ b0 = 244 ∧ 144 ≤ b1
      · rw [if_pos bad, if_neg (by omega), if_neg (by omega), if_neg (by omega), if_neg (by rw [hc]; omega)]
      rw [if_neg bad]
      by_cases hn2 : n = 2
      · rw [if_pos hn2, if_neg (by omega), if_neg (by omega), if_neg (by omega), if_pos (by rw [hc]; omega)]
      rw [if_neg hn2]
      by_cases t2 : 128 ≤ b2 ∧ b2 < 192
      · rw [if_neg (by omega)]
        by_cases hn3 : n = 3
        · rw [if_pos hn3, if_neg (by omega), if_neg (by omega), if_neg (by omega), if_pos (by rw [hc]; omega)]
        rw [if_neg hn3]
        by_cases t3 : 128 ≤ b3 ∧ b3 < 192
        · rw [if_pos t3, if_neg (by omega), if_neg (by omega), if_pos (by omega)]
          simp only [Prod.mk.injEq, and_true]
          omega
        · rw [if_neg t3, if_neg (by omega), if_neg (by omega), if_neg (by omega), if_neg (by rw [hc]; omega)]
      · rw [if_pos t2, if_neg (by omega), if_neg (by omega), if_neg (by omega), if_neg (by rw [hc]; omega)]
    · rw [if_pos t1, if_neg (by omega), if_neg (by omega), if_neg (by omega), if_neg (by rw [hc]; omega)]
  · rw [if_neg a5, if_neg (by omega), if_neg (by omega), if_neg (by omega), if_neg (by rw [hc]; omega)]
theorem L7 {x : Int} (h0 : 0 ≤ x) (h1 : x < 2147483648) : IntKind.i32.wrap x = x := wraps_i32 x h0 (by omega)
theorem Ab3 (v t L : Int) (P : Int) (ht : (t = 0 ∧ P = 1) ∨ (t = 1 ∧ P = 64) ∨ (t = 2 ∧ P = 4096) ∨ (t = 3 ∧ P = 262144)) (hv : 0 ≤ v) (hb : (v + 1) * P ≤ 2097152) (hL : v * P = L) : Tot (fun k _ _ => (lv k).Dg v t) (fun r => r = (L, L + (P - 1))) := by
  refine Dg_up _ _ (Tot.congr ?_ (fun k _ _ => Dg_q (lv k) k v t))
  have hm : ∀ (i : Nat), (2 : Int) ^ i = P → i ≤ 18 → IntKind.i32.wrap (v * 2 ^ i) = L ∧ IntKind.i32.wrap ((BitVec.ofInt IntKind.i32.bits (IntKind.i32.wrap (v * 2 ^ i)) ||| BitVec.ofInt IntKind.i32.bits (P - 1)).toNat : Int) = L + (P - 1) := fun i hP hi => by
    have hPp : 1 ≤ P := by rcases ht with h | h | h | h <;> omega
    have hmul : (v + 1) * P = v * P + P := by rw [Int.add_mul, Int.one_mul]
    have hL0 : 0 ≤ v * P := Int.mul_nonneg hv (by omega)
    have e1 : IntKind.i32.wrap (v * 2 ^ i) = L := by rw [hP, hL]; exact L7 (by omega) (by omega)
    refine ⟨e1, ?_⟩
    rw [e1]
    exact bits_join .i32 31 (by decide) wraps_i32 i L (P - 1) (by omega) (by rw [hP, ← hL]; exact Int.mul_emod_left _ _) (by omega) (by omega) (by rw [hP]; omega) (by omega)
  rcases ht with ⟨rfl, hP⟩ | ⟨rfl, hP⟩ | ⟨rfl, hP⟩ | ⟨rfl, hP⟩
  · obtain ⟨a, b⟩ := hm 0 (by rw [hP]; rfl) (by omega)
    subst hP
    refine Tot.f (by rfl) (Tot.f (by rfl) (Tot.ret ?_))
    exact Prod.ext a b
  · obtain ⟨a, b⟩ := hm 6 (by rw [hP]; rfl) (by omega)
    subst hP
    refine Tot.f (by rfl) (Tot.f (by rfl) (Tot.ret ?_))
    exact Prod.ext a b
  · obtain ⟨a, b⟩ := hm 12 (by rw [hP]; rfl) (by omega)
    subst hP
    refine Tot.f (by rfl) (Tot.f (by rfl) (Tot.ret ?_))
    exact Prod.ext a b
  · obtain ⟨a, b⟩ := hm 18 (by rw [hP]; rfl) (by omega)
    subst hP
    refine Tot.f (by rfl) (Tot.f (by rfl) (Tot.ret ?_))
    exact Prod.ext a b
theorem Um : ∀ b : Fin 256, bits .and .u8 (b.val : Int) 63 = (b.val : Int) % 64 := by decide +kernel
theorem N5 (t : Nat) (h : t ≤ 3) : ((t : Int) = 0 ∧ (64 : Int) ^ t = 1) ∨ ((t : Int) = 1 ∧ (64 : Int) ^ t = 64) ∨ ((t : Int) = 2 ∧ (64 : Int) ^ t = 4096) ∨ ((t : Int) = 3 ∧ (64 : Int) ^ t = 262144) := by
  rcases (show t = 0 ∨ t = 1 ∨ t = 2 ∨ t = 3 by omega) with rfl | rfl | rfl | rfl
  · exact .inl ⟨rfl, rfl⟩
  · exact .inr (.inl ⟨rfl, rfl⟩)
  · exact .inr (.inr (.inl ⟨rfl, rfl⟩))
  · exact .inr (.inr (.inr ⟨rfl, rfl⟩))
theorem W5 : Tot (fun k _ _ => (lv k).Df) (fun r => r = (128, 0, 0, 224, 192, 128, 240, 224, 2048, 248, 240, 65536)) := by
  refine Df_up (Tot.congr ?_ (fun k _ _ => Df_q (lv k) k ))
  exact Tot.ret rfl
section
variable (s : ByteArray) (p : Int) (h0 : 0 ≤ p) (hp : p < s.size) (hz : s.size ≤ 1000000000)
include h0 hp hz
theorem Sn (j : Nat) (hj : j ≤ 3) (v h a b : Int) (t P : Int) (ht : (j : Int) + 1 - h = t) (hP : (t = 0 ∧ P = 1) ∨ (t = 1 ∧ P = 64) ∨ (t = 2 ∧ P = 4096) ∨ (t = 3 ∧ P = 262144)) (hv : 0 ≤ v) (hb : (v + 1) * P ≤ 2097152) (h1 : 1 ≤ h) (hh : p + h ≤ s.size) : Tot (fun k m m' => Ao_l3 (lv k) k s p m (j : Int) v h a b (lst j)) (fun r => r = Hg s p j v h) := by
  refine Tot.congr ?_ (fun k p_ q_ => Ao_l3_q (lv k) k s p p_ (j : Int) v h a b (lst j))
  rw [Ag (x := (j : Int) + 1) (by omega) (by omega), Ag (x := (j : Int) + 1 - h) (by omega) (by omega), Ag (x := p + h) (by omega) (by omega), ht]
  refine Tot.bind (Ab3 v t (v * P) P hP hv hb rfl) fun r hr => ?_
  subst hr
  have hpow : (64 : Int) ^ t.toNat = P := by rcases hP with ⟨rfl, rfl⟩ | ⟨rfl, rfl⟩ | ⟨rfl, rfl⟩ | ⟨rfl, rfl⟩ <;> rfl
  rw [Fj s p j v h t.toNat (v * P) (v * P + (P - 1)) (by rw [ht]) (by rw [hpow]) (by rw [hpow])]
  have tail : Tot (fun _ _ _ => cond (h == (j : Int) + 1) (some (v, h, (0 : Int))) (cond (p + h == (s.size : Int)) (some (0, 0, 7)) (some (0, 0, 2)))) (fun r => r = if h = (j : Int) + 1 then (v, h, 0) else if p + h = s.size then (0, 0, 7) else (0, 0, 2)) := by
    refine Tot.cond (fun c => Tot.ret ?_) (fun c => Tot.cond (fun c' => Tot.ret ?_) (fun c' => Tot.ret ?_))
    · rw [if_pos (eq_of_beq c)]
    · rw [if_neg (ne_of_beq_false c), if_pos (eq_of_beq c')]
    · rw [if_neg (ne_of_beq_false c), if_neg (ne_of_beq_false c')]
  refine Tot.cond (fun c1 => Tot.ret ?_) (fun c1 => Tot.cond (fun c2 => Tot.ret ?_) (fun c2 => Tot.cond (fun c3 => Tot.cond (fun c4 => Tot.ret ?_) (fun c4 => ?_)) (fun c3 => ?_)))
  · rw [if_pos (of_decide_eq_true c1)]
  · rw [if_neg (of_decide_eq_false c1), if_pos (of_decide_eq_true c2)]
  · rw [if_neg (of_decide_eq_false c1), if_neg (of_decide_eq_false c2), if_pos ⟨of_decide_eq_true c3, of_decide_eq_true c4⟩]
  · rw [if_neg (of_decide_eq_false c1), if_neg (of_decide_eq_false c2), if_neg (fun h => of_decide_eq_false c4 h.2)]
    exact tail
  · rw [if_neg (of_decide_eq_false c1), if_neg (of_decide_eq_false c2), if_neg (fun h => of_decide_eq_false c3 h.1)]
    exact tail
theorem Aan (j : Nat) (hj : j ≤ 3) (a b : Int) : ∀ (d : Nat) (v h : Int), (j : Int) + 1 - h = d → 0 ≤ v → (v + 1) * 64 ^ d ≤ 2097152 → 1 ≤ h → p + h ≤ s.size → Tot (fun k m m' => Ao_l2 (lv k) k s p m m' (j : Int) v h a b (lst j)) (fun r => r = Hg s p j (Ff s p d v h).1 (Ff s p d v h).2) := by
  intro d
  induction d with
  | zero =>
    intro v h hd hv hb h1 hh
    refine Tot.step1 (fun k p_ q_ => Ao_l2_q (lv k) k s p p_ q_ (j : Int) v h a b (lst j)) ?_
    refine Tot.f (decide_eq_false (by omega)) ?_
    exact Sn s p h0 hp hz j hj v h a b 0 1 (by omega) (.inl ⟨rfl, rfl⟩) hv (by simpa using hb) h1 hh
  | succ d ih =>
    intro v h hd hv hb h1 hh
    have hd3 : d ≤ 2 := by omega
    have hend : Tot (fun k m m' => Ao_l3 (lv k) k s p m (j : Int) v h a b (lst j)) (fun r => r = Hg s p j v h) :=
      Sn s p h0 hp hz j hj v h a b ((d + 1 : Nat) : Int) (64 ^ (d + 1)) (by omega) (N5 (d + 1) (by omega)) hv hb h1 hh
    refine Tot.step1 (fun k p_ q_ => Ao_l2_q (lv k) k s p p_ q_ (j : Int) v h a b (lst j)) ?_
    rw [Ag (x := p + h) (by omega) (by omega), Ag (x := h + 1) (by omega) (by omega)]
    rw [Ff]
    refine Tot.t (decide_eq_true (by omega)) (Tot.cond (fun c1 => ?_) (fun c1 => ?_))
    · have c1 := of_decide_eq_true c1
      have hr := Eg s (p + h)
      have hbt : ((s.data.getD (p + h).toNat 0).toNat : Int) = byt s (p + h) := rfl
      rw [hbt]
      refine Tot.t (decide_eq_true (by omega)) (Tot.t (decide_eq_true (by omega)) ?_)
      by_cases ht : 128 ≤ byt s (p + h) ∧ byt s (p + h) < 192
      · refine Tot.t (Ack _ ht) (Tot.t (decide_eq_true (by omega)) (Tot.t (decide_eq_true (by omega)) ?_))
        rw [if_pos ⟨c1, ht⟩]
        have hx : IntKind.u8.wrap ((BitVec.ofInt IntKind.u8.bits (byt s (p + h)) &&& BitVec.ofInt IntKind.u8.bits 63).toNat : Int) = byt s (p + h) % 64 := by
          obtain ⟨n, hn⟩ := Int.eq_ofNat_of_zero_le hr.1
          rw [hn]
          exact Um ⟨n, by omega⟩
        have hpow : (64 : Int) ^ (d + 1) = 64 * 64 ^ d := by rw [Int.pow_succ, Int.mul_comm]
        have hd1 : (1 : Int) ≤ 64 ^ d := by rcases N5 d (by omega) with ⟨_, e⟩ | ⟨_, e⟩ | ⟨_, e⟩ | ⟨_, e⟩ <;> rw [e] <;> omega
        have hvb : (v + 1) * 64 ≤ 2097152 := by
          have h2 : (v + 1) * 64 * 1 ≤ (v + 1) * 64 * 64 ^ d := Int.mul_le_mul_of_nonneg_left hd1 (by omega)
          rw [hpow, ← Int.mul_assoc] at hb
          omega
        have hsh : IntKind.i32.wrap (v * 2 ^ 6) = v * 64 := L7 (x := v * 64) (by omega) (by omega)
        rw [hx, L7 (x := byt s (p + h) % 64) (by omega) (by omega), hsh]
        have hj : IntKind.i32.wrap ((BitVec.ofInt IntKind.i32.bits (v * 64) ||| BitVec.ofInt IntKind.i32.bits (byt s (p + h) % 64)).toNat : Int) = v * 64 + byt s (p + h) % 64 :=
          bits_join .i32 31 (by decide) wraps_i32 6 (v * 64) (byt s (p + h) % 64) (by omega) (by omega) (by omega) (by omega) (by omega) (by omega)
        rw [hj]
        refine ih (v * 64 + byt s (p + h) % 64) (h + 1) (by omega) (by omega) ?_ (by omega) (by omega)
        have h2 : (v * 64 + byt s (p + h) % 64 + 1) * 64 ^ d ≤ ((v + 1) * 64) * 64 ^ d := Int.mul_le_mul_of_nonneg_right (by omega) (by omega)
        rw [hpow, ← Int.mul_assoc] at hb
        omega
      · refine Tot.f (Acj _ hr.1 hr.2 ht) ?_
        rw [if_neg (fun h => ht h.2)]
        exact hend
    · have c1 := of_decide_eq_false c1
      rw [if_neg (fun h => c1 h.1)]
      exact hend
theorem S4 : Tot (fun k _ _ => (lv k).Ao s p) (fun r => r = Bt s p) := by
  rw [← Abn]
  have hr := Eg s p
  have hbt : ((s.data.getD p.toNat 0).toNat : Int) = byt s p := rfl
  refine Ao_up _ _ (Tot.congr ?_ (fun k _ _ => Ao_q (lv k) k s p))
  refine Tot.f (decide_eq_false (by omega)) (Tot.f (decide_eq_false (by omega)) ?_)
  have e : Mn s p = if cls (byt s p) ≤ 3 then Hg s p (cls (byt s p)) (Ff s p (cls (byt s p)) (byt s p - mrk (cls (byt s p))) 1).1 (Ff s p (cls (byt s p)) (byt s p - mrk (cls (byt s p))) 1).2 else (0, 0, 2) := by
    rw [Mn, if_neg (by omega)]
  rw [e]
  refine Tot.bind W5 fun f hf => ?_
  subst hf
  have l1 : ∀ (j : Nat), j ≤ 3 → (cls (byt s p) ≠ j → Tot (fun k m m' => Ao_l0 (lv k) k s p m 128 0 0 224 192 128 240 224 2048 248 240 65536 ((j : Int) + 1)) (fun r => r = if cls (byt s p) ≤ 3 then Hg s p (cls (byt s p)) (Ff s p (cls (byt s p)) (byt s p - mrk (cls (byt s p))) 1).1 (Ff s p (cls (byt s p)) (byt s p - mrk (cls (byt s p))) 1).2 else (0, 0, 2))) →
      Tot (fun k m m' => Ao_l1 (lv k) k s p m (j : Int) 128 0 0 224 192 128 240 224 2048 248 240 65536 (j : Int) (msk j) (mrk j) (lst j)) (fun r => r = if cls (byt s p) ≤ 3 then Hg s p (cls (byt s p)) (Ff s p (cls (byt s p)) (byt s p - mrk (cls (byt s p))) 1).1 (Ff s p (cls (byt s p)) (byt s p - mrk (cls (byt s p))) 1).2 else (0, 0, 2)) := fun j hj next => by
    refine Tot.congr ?_ (fun k p_ q_ => Ao_l1_q (lv k) k s p p_ (j : Int) 128 0 0 224 192 128 240 224 2048 248 240 65536 (j : Int) (msk j) (mrk j) (lst j))
    rw [hbt, Ag (x := (j : Int) + 1) (by omega) (by omega)]
    refine Tot.t (decide_eq_true (by omega)) (Tot.t (decide_eq_true (by omega)) ?_)
    by_cases hc : cls (byt s p) = j
    · refine Tot.f (Uo _ hr.1 hr.2 j hj hc) (Tot.t (decide_eq_true (by omega)) (Tot.t (decide_eq_true (by omega)) ?_))
      have hx : IntKind.u8.wrap ((BitVec.ofInt IntKind.u8.bits (byt s p) &&& ~~~ BitVec.ofInt IntKind.u8.bits (msk j)).toNat : Int) = byt s p - mrk j := Un _ hr.1 hr.2 j hj hc
      have lo := V1 _ hr.1 hr.2 (by omega : cls (byt s p) ≤ 3)
      rw [hc] at lo
      rw [hx, L7 (x := byt s p - mrk j) (by omega) (by omega), hc, if_pos hj]
      refine Tot.in1 (Aan s p h0 hp hz j hj (msk j) (mrk j) j (byt s p - mrk j) 1 (by omega) (by omega) ?_ (by omega) (by omega))
      rcases N5 j hj with ⟨ej, e⟩ | ⟨ej, e⟩ | ⟨ej, e⟩ | ⟨ej, e⟩ <;> rw [e]
      · omega
      · have := lo.2.2.1 ⟨by omega, by omega⟩; omega
      · have := lo.2.2.2.1 (by omega); omega
      · have := lo.2.2.2.2 (by omega); omega
    · refine Tot.t (Uq _ hr.1 hr.2 j hj hc) (next hc)
  refine Tot.in0 (g := fun k m m' => Ao_l0 (lv k) k s p m 128 0 0 224 192 128 240 224 2048 248 240 65536 0) ?_
  refine Tot.step0 (fun k p_ q_ => Ao_l0_q (lv k) k s p p_ 128 0 0 224 192 128 240 224 2048 248 240 65536 0) ?_
  refine Tot.t (by rfl) (Tot.t (by rfl) (l1 0 (by omega) fun n0 => ?_))
  refine Tot.step0 (fun k p_ q_ => Ao_l0_q (lv k) k s p p_ 128 0 0 224 192 128 240 224 2048 248 240 65536 (((0 : Nat) : Int) + 1)) ?_
  refine Tot.t (by rfl) (Tot.f (by rfl) (Tot.t (by rfl) (l1 1 (by omega) fun n1 => ?_)))
  refine Tot.step0 (fun k p_ q_ => Ao_l0_q (lv k) k s p p_ 128 0 0 224 192 128 240 224 2048 248 240 65536 (((1 : Nat) : Int) + 1)) ?_
  refine Tot.t (by rfl) (Tot.f (by rfl) (Tot.f (by rfl) (Tot.t (by rfl) (l1 2 (by omega) fun n2 => ?_))))
  refine Tot.step0 (fun k p_ q_ => Ao_l0_q (lv k) k s p p_ 128 0 0 224 192 128 240 224 2048 248 240 65536 (((2 : Nat) : Int) + 1)) ?_
  refine Tot.t (by rfl) (Tot.f (by rfl) (Tot.f (by rfl) (Tot.f (by rfl) (Tot.t (by rfl) (l1 3 (by omega) fun n3 => ?_)))))
  refine Tot.step0 (fun k p_ q_ => Ao_l0_q (lv k) k s p p_ 128 0 0 224 192 128 240 224 2048 248 240 65536 (((3 : Nat) : Int) + 1)) ?_
  refine Tot.f (by rfl) (Tot.ret ?_)
  rw [if_neg (by omega)]
end
def bs (n : Int) : Int := if n = 2 then 192 else if n = 3 then 224 else 240
def Ev (l : List Int) : LL := l.map fun x => [C.int .u8 x]
theorem On {x n : Int} (h : 0 ≤ x) : Int.tdiv x n = x / n := Int.tdiv_eq_ediv_of_nonneg h
theorem Oo {x n : Int} (h : 0 ≤ x) : Int.tmod x n = x % n := Int.tmod_eq_emod_of_nonneg h
theorem Hk {x : Int} (h0 : 0 ≤ x) (h1 : x < 256) : IntKind.u8.wrap (IntKind.i64.wrap x) = x := by rw [Ag (by omega) (by omega)]; exact wraps_u8 x h0 (by omega)
theorem Sj (r : Int) : Tot (fun k _ _ => (lv k).Cb r) (fun l => l = Ev (Dr r)) := by
  refine Cb_up _ (Tot.congr ?_ (fun k _ _ => Cb_q (lv k) k r))
  have none1 : ∀ {l : LL}, (r < 0 ∨ r > 1114111 ∨ (55296 ≤ r ∧ r ≤ 57343)) → l = [] → l = Ev (Dr r) := fun h e => by rw [e, Dr, if_pos h]; rfl
  refine Tot.cond (fun c => Tot.ret (none1 (.inl (of_decide_eq_true c)) rfl)) (fun c => Tot.cond (fun c' => Tot.ret (none1 (.inr (.inl (of_decide_eq_true c'))) rfl)) (fun c' => ?_))
  have c := of_decide_eq_false c
  have c' := of_decide_eq_false c'
  have w64 : IntKind.i64.wrap (Int.tdiv r 64) = r / 64 := by rw [On (by omega), Ag (by omega) (by omega)]
  have w12 : IntKind.i64.wrap (Int.tdiv r 4096) = r / 4096 := by rw [On (by omega), Ag (by omega) (by omega)]
  have w18 : IntKind.i64.wrap (Int.tdiv r 262144) = r / 262144 := by rw [On (by omega), Ag (by omega) (by omega)]
  rw [w64, w12, w18, Oo (x := r) (by omega), Oo (x := r / 64) (by omega), Oo (x := r / 4096) (by omega)]
  have main : ¬ (55296 ≤ r ∧ r ≤ 57343) → Tot (fun _ _ _ => cond (decide (r < (128 : Int))) (some [[C.int .u8 (IntKind.u8.wrap r)]]) (cond (decide (r < (2048 : Int))) (some [[C.int .u8 (IntKind.u8.wrap (IntKind.i64.wrap ((192 : Int) + r / 64)))], [C.int .u8 (IntKind.u8.wrap (IntKind.i64.wrap ((128 : Int) + r % 64)))]]) (cond (decide (r < (65536 : Int))) (some [[C.int .u8 (IntKind.u8.wrap (IntKind.i64.wrap ((224 : Int) + r / 4096)))], [C.int .u8 (IntKind.u8.wrap (IntKind.i64.wrap ((128 : Int) + r / 64 % 64)))], [C.int .u8 (IntKind.u8.wrap (IntKind.i64.wrap ((128 : Int) + r % 64)))]]) (some [[C.int .u8 (IntKind.u8.wrap (IntKind.i64.wrap ((240 : Int) + r / 262144)))], [C.int .u8 (IntKind.u8.wrap (IntKind.i64.wrap ((128 : Int) + r / 4096 % 64)))], [C.int .u8 (IntKind.u8.wrap (IntKind.i64.wrap ((128 : Int) + r / 64 % 64)))], [C.int .u8 (IntKind.u8.wrap (IntKind.i64.wrap ((128 : Int) + r % 64)))]])))) (fun l => l = Ev (Dr r)) := fun hs => by
    have e : Ev (Dr r) = Ev (if r < 128 then [r] else if r < 2048 then [192 + r / 64, 128 + r % 64] else if r < 65536 then [224 + r / 4096, 128 + r / 64 % 64, 128 + r % 64] else [240 + r / 262144, 128 + r / 4096 % 64, 128 + r / 64 % 64, 128 + r % 64]) := by
      rw [Dr, if_neg (by omega)]
    rw [e]
    refine Tot.cond (fun a => Tot.ret ?_) (fun a => Tot.cond (fun a' => Tot.ret ?_) (fun a' => Tot.cond (fun a'' => Tot.ret ?_) (fun a'' => Tot.ret ?_)))
    · have a := of_decide_eq_true a
      rw [if_pos a, wraps_u8 r (by omega) (by omega)]; rfl
    · have a := of_decide_eq_false a; have a' := of_decide_eq_true a'
      rw [if_neg a, if_pos a', Hk (by omega) (by omega), Hk (by omega) (by omega)]; rfl
    · have a := of_decide_eq_false a; have a' := of_decide_eq_false a'; have a'' := of_decide_eq_true a''
      rw [if_neg a, if_neg a', if_pos a'', Hk (by omega) (by omega), Hk (by omega) (by omega), Hk (by omega) (by omega)]; rfl
    · have a := of_decide_eq_false a; have a' := of_decide_eq_false a'; have a'' := of_decide_eq_false a''
      rw [if_neg a, if_neg a', if_neg a'', Hk (by omega) (by omega), Hk (by omega) (by omega), Hk (by omega) (by omega), Hk (by omega) (by omega)]; rfl
  refine Tot.cond (fun d => Tot.cond (fun d' => Tot.ret (none1 (.inr (.inr ⟨of_decide_eq_true d, of_decide_eq_true d'⟩)) rfl)) (fun d' => main fun h => of_decide_eq_false d' h.2)) (fun d => main fun h => of_decide_eq_false d h.1)
theorem W7 (l : List Int) (i : Nat) (h : i < l.length) : gi ((Ev l).getD i []) 0 = l.getD i 0 := by
  have h' : i < (Ev l).length := by simpa [Ev] using h
  rw [List.getD_eq_getElem?_getD, List.getElem?_eq_getElem h', List.getD_eq_getElem?_getD, List.getElem?_eq_getElem h]
  simp [Ev, gi, fc, C.it]
section
variable (s : ByteArray) (p : Int) (h0 : 0 ≤ p) (hp : p < s.size) (hz : s.size ≤ 1048576)
include h0 hp hz
theorem Po (l : List Int) (hl : l.length ≤ 4) : Tot (fun k _ _ => (lv k).Bi s p (Ev l)) (fun r => r = beg s p l) := by
  have hlen : (Ev l).length = l.length := by simp [Ev]
  refine Bi_up _ _ _ (Tot.congr ?_ (fun k _ _ => Bi_q (lv k) k s p (Ev l)))
  rw [hlen, Ag (x := p + (l.length : Int)) (by omega) (by omega)]
  refine Tot.cond (fun c => Tot.ret ?_) (fun c => Tot.cond (fun c' => Tot.ret ?_) (fun c' => ?_))
  · have : l = [] := List.length_eq_zero_iff.1 (by simpa using c)
    subst this; rfl
  · have c' := of_decide_eq_true c'
    symm
    unfold beg
    rw [decide_eq_false (show ¬ p + (l.length : Int) ≤ s.size by omega), Bool.and_false, Bool.false_and]
  · have c : l.length ≠ 0 := by simpa using c
    have c' := of_decide_eq_false c'
    have hne : l ≠ [] := fun e => c (by rw [e]; rfl)
    have hbeg : ∀ r : Bool, (r = true ↔ ∀ i : Nat, i < l.length → byt s (p + i) = l.getD i 0) → r = beg s p l := fun r h => by
      have h2 := Kf s p l
      cases r <;> cases hb : beg s p l
      · rfl
      · exact absurd (h.2 ((h2.1 hb).2.2)) (by simp)
      · exact absurd (h2.2 ⟨hne, by omega, h.1 rfl⟩) (by rw [hb]; simp)
      · rfl
    refine Tot.in0 (Tot.loop (H := fun k x y v (_ : Unit) => Bi_l0 (lv k) k s p (Ev l) x v) (n := l.length) (fun i _ => ∀ j : Nat, j < i → byt s (p + j) = l.getD j 0) (by omega) (fun _ h => ?_) (fun i _ hi h next => ?_) _ 0 () rfl (by omega) (fun j hj => by omega))
    · refine Tot.step0 (fun k p_ q_ => Bi_l0_q (lv k) k s p (Ev l) p_ _) ?_
      rw [hlen]
      exact Tot.f (decide_eq_false (by omega)) (Tot.ret (hbeg true ⟨fun _ => h, fun _ => rfl⟩))
    · refine Tot.step0 (fun k p_ q_ => Bi_l0_q (lv k) k s p (Ev l) p_ _) ?_
      rw [hlen, Ag (x := p + (i : Int)) (by omega) (by omega), Int.toNat_natCast, W7 l i hi, show ((s.data.getD (p + (i : Int)).toNat 0).toNat : Int) = byt s (p + i) from rfl]
      repeat (refine Tot.t (decide_eq_true (by omega)) ?_)
      refine Tot.cond (fun d => Tot.ret (hbeg false ⟨fun e => (by cases e), fun e => ?_⟩)) (fun d => next () (fun j hj => ?_))
      · rw [e i hi] at d; simp at d
      · rcases Nat.lt_or_ge j i with h2 | h2
        · exact h j h2
        · rw [show j = i by omega]; simpa using d
theorem Hm (n : Int) (hn : n = 2 ∨ n = 3 ∨ n = 4) (i : Nat) (hi : (i : Int) < n) (hs : p + n ≤ s.size) (v : Int) (hv : -100000000 ≤ v) (hv2 : v ≤ 100000000) {Q : Int → Prop} (h : Tot (fun k m m' => An_l0 (lv k) k s p n m (v * 64 + (byt s (p + i) - (if i = 0 then bs n else 128))) ((i : Int) + 1)) Q) : Tot (fun k m m' => An_l0 (lv k) k s p n m v (i : Int)) Q := by
  have hr := Eg s (p + i)
  have e : ((s.data.getD (p + (i : Int)).toNat 0).toNat : Int) = byt s (p + i) := rfl
  have l1 : ∀ x : Int, x - (if i = 0 then (if n = 4 then 240 else 0) else 128) = byt s (p + i) - (if i = 0 then bs n else 128) → Tot (fun k m m' => An_l1 (lv k) k s p n m v (i : Int) x) Q := fun x hx => by
    refine Tot.congr ?_ (fun k p_ q_ => An_l1_q (lv k) k s p n p_ v (i : Int) x)
    rw [Ag (x := (i : Int) + 1) (by omega) (by omega), Ag (x := v * 64) (by omega) (by omega)]
    rcases Nat.eq_zero_or_pos i with rfl | hp'
    · rw [if_pos rfl, if_pos rfl] at hx
      rw [if_pos rfl] at h
      have hb : bs n = 192 ∨ bs n = 224 ∨ bs n = 240 := by unfold bs; split; · exact .inl rfl
                                                           split; · exact .inr (.inl rfl)
                                                           exact .inr (.inr rfl)
      refine Tot.t (by rfl) ?_
      rcases hn with rfl | rfl | rfl
      · rw [if_neg (by omega)] at hx
        refine Tot.f (by rfl) (Tot.f (by rfl) ?_)
        rw [Ag (x := v * 64 + x) (by omega) (by omega), show x = byt s (p + ((0 : Nat) : Int)) - bs 2 by omega]
        exact h
      · rw [if_neg (by omega)] at hx
        refine Tot.f (by rfl) (Tot.f (by rfl) ?_)
        rw [Ag (x := v * 64 + x) (by omega) (by omega), show x = byt s (p + ((0 : Nat) : Int)) - bs 3 by omega]
        exact h
      · rw [if_pos rfl] at hx
        refine Tot.t (by rfl) (Tot.f (by rfl) ?_)
        rw [Ag (x := x - 240) (by omega) (by omega), Ag (x := v * 64 + (x - 240)) (by omega) (by omega), hx]
        exact h
    · have hi0 : ¬ i = 0 := by omega
      rw [if_neg hi0, if_neg hi0] at hx
      rw [if_neg hi0] at h
      refine Tot.f (by rw [beq_eq_false_iff_ne]; omega) (Tot.t (decide_eq_true (by omega)) ?_)
      rw [Ag (x := x - 128) (by omega) (by omega), Ag (x := v * 64 + (x - 128)) (by omega) (by omega), hx]
      exact h
  refine Tot.step0 (fun k p_ q_ => An_l0_q (lv k) k s p n p_ v (i : Int)) ?_
  rw [Ag (x := p + (i : Int)) (by omega) (by omega), e, Ag (x := byt s (p + (i : Int))) (by omega) (by omega), Ag (x := byt s (p + (i : Int)) - 192) (by omega) (by omega), Ag (x := byt s (p + (i : Int)) - 192 - 224) (by omega) (by omega), Ag (x := byt s (p + (i : Int)) - 224) (by omega) (by omega)]
  refine Tot.t (decide_eq_true hi) (Tot.t (decide_eq_true (by omega)) (Tot.t (decide_eq_true (by omega)) ?_))
  rcases Nat.eq_zero_or_pos i with rfl | hp'
  · refine Tot.t (by rfl) ?_
    rcases hn with rfl | rfl | rfl
    · exact Tot.t (by rfl) (Tot.t (by rfl) (Tot.f (by rfl) (l1 _ (by simp [bs]))))
    · exact Tot.f (by rfl) (Tot.t (by rfl) (Tot.t (by rfl) (l1 _ (by simp [bs]))))
    · exact Tot.f (by rfl) (Tot.t (by rfl) (Tot.f (by rfl) (l1 _ (by simp [bs]))))
  · have hi0 : ¬ i = 0 := by omega
    have hb : ((i : Int) == (0 : Int)) = false := by rw [beq_eq_false_iff_ne]; omega
    exact Tot.f hb (Tot.f hb (l1 _ (by rw [if_neg hi0, if_neg hi0])))
omit h0 hp hz in
theorem Ow (n v i : Int) (h : n ≤ i) : Tot (fun k m m' => An_l0 (lv k) k s p n m v i) (fun r => r = v) := by
  refine Tot.step0 (fun k p_ q_ => An_l0_q (lv k) k s p n p_ v i) ?_
  exact Tot.f (decide_eq_false (by omega)) (Tot.ret rfl)
theorem Acx (hs : p + 2 ≤ s.size) : Tot (fun k _ _ => (lv k).An s p 2) (fun r => r = (byt s p - 192) * 64 + (byt s (p + 1) - 128)) := by
  have b0 := Eg s p
  refine An_up _ _ _ (Tot.congr ?_ (fun k _ _ => An_q (lv k) k s p 2))
  refine Tot.in0 (Hm s p h0 hp hz 2 (.inl rfl) 0 (by omega) hs 0 (by omega) (by omega) ?_)
  rw [if_pos rfl, show p + ((0 : Nat) : Int) = p by omega]
  refine Hm s p h0 hp hz 2 (.inl rfl) 1 (by omega) hs _ (by simp only [bs]; simp; omega) (by simp only [bs]; simp; omega) ?_
  rw [if_neg (by omega)]
  refine (Ow s p 2 _ _ (by omega)).mono fun r hr => ?_
  rw [hr]
  simp [bs]
theorem Acy (hs : p + 3 ≤ s.size) : Tot (fun k _ _ => (lv k).An s p 3) (fun r => r = ((byt s p - 224) * 64 + (byt s (p + 1) - 128)) * 64 + (byt s (p + 2) - 128)) := by
  have b0 := Eg s p
  have b1 := Eg s (p + 1)
  refine An_up _ _ _ (Tot.congr ?_ (fun k _ _ => An_q (lv k) k s p 3))
  refine Tot.in0 (Hm s p h0 hp hz 3 (.inr (.inl rfl)) 0 (by omega) hs 0 (by omega) (by omega) ?_)
  rw [if_pos rfl, show p + ((0 : Nat) : Int) = p by omega]
  refine Hm s p h0 hp hz 3 (.inr (.inl rfl)) 1 (by omega) hs _ (by simp only [bs]; simp; omega) (by simp only [bs]; simp; omega) ?_
  rw [if_neg (by omega), show p + ((1 : Nat) : Int) = p + 1 by omega]
  refine Hm s p h0 hp hz 3 (.inr (.inl rfl)) 2 (by omega) hs _ (by simp only [bs]; simp; omega) (by simp only [bs]; simp; omega) ?_
  rw [if_neg (by omega)]
  refine (Ow s p 3 _ _ (by omega)).mono fun r hr => ?_
  rw [hr]
  simp [bs]
theorem Acz (hs : p + 4 ≤ s.size) : Tot (fun k _ _ => (lv k).An s p 4) (fun r => r = (((byt s p - 240) * 64 + (byt s (p + 1) - 128)) * 64 + (byt s (p + 2) - 128)) * 64 + (byt s (p + 3) - 128)) := by
  have b0 := Eg s p
  have b1 := Eg s (p + 1)
  have b2 := Eg s (p + 2)
  refine An_up _ _ _ (Tot.congr ?_ (fun k _ _ => An_q (lv k) k s p 4))
  refine Tot.in0 (Hm s p h0 hp hz 4 (.inr (.inr rfl)) 0 (by omega) hs 0 (by omega) (by omega) ?_)
  rw [if_pos rfl, show p + ((0 : Nat) : Int) = p by omega]
  refine Hm s p h0 hp hz 4 (.inr (.inr rfl)) 1 (by omega) hs _ (by simp only [bs]; simp; omega) (by simp only [bs]; simp; omega) ?_
  rw [if_neg (by omega), show p + ((1 : Nat) : Int) = p + 1 by omega]
  refine Hm s p h0 hp hz 4 (.inr (.inr rfl)) 2 (by omega) hs _ (by simp only [bs]; simp; omega) (by simp only [bs]; simp; omega) ?_
  rw [if_neg (by omega), show p + ((2 : Nat) : Int) = p + 2 by omega]
  refine Hm s p h0 hp hz 4 (.inr (.inr rfl)) 3 (by omega) hs _ (by simp only [bs]; simp; omega) (by simp only [bs]; simp; omega) ?_
  rw [if_neg (by omega)]
  refine (Ow s p 4 _ _ (by omega)).mono fun r hr => ?_
  rw [hr]
  simp [bs]
def RQ (s : ByteArray) (p : Int) (r : Int × Int × Int) : Prop := ((Bt s p).2.2 = 0 → r = Bt s p) ∧ ((Bt s p).2.2 ≠ 0 → r.2.2 ≠ 0)
theorem Oa (n v : Int) (hn : 1 < n) (hn4 : n ≤ 4) (hf : p + n ≤ s.size) (hv : Tot (fun k _ _ => (lv k).An s p n) (fun r => r = v)) {Q : Int × Int × Int → Prop} (yes : ((Dr v).length : Int) = n → beg s p (Dr v) = true → Q (v, n, 0))
    (no : ¬ (((Dr v).length : Int) = n ∧ beg s p (Dr v) = true) → Tot (fun k m m' => A7_l0 (lv k) k s p m (n + 1)) Q) : Tot (fun k m m' => A7_l0 (lv k) k s p m n) Q := by
  refine Tot.step0 (fun k p_ q_ => A7_l0_q (lv k) k s p p_ n) ?_
  rw [Ag (x := p + n) (by omega) (by omega), Ag (x := n + 1) (by omega) (by omega)]
  refine Tot.t (decide_eq_true (by omega)) (Tot.t (decide_eq_true (by omega)) (Tot.t (decide_eq_true (by omega)) (Tot.t (decide_eq_true (by omega)) (Tot.t (decide_eq_true (by omega)) ?_))))
  refine Tot.bind hv fun r1 h1 => Tot.bind (Sj r1) fun r2 h2 => ?_
  subst h1 h2
  have hlen : (Ev (Dr r1)).length = (Dr r1).length := by simp [Ev]
  rw [hlen]
  refine Tot.cond (fun c => ?_) (fun c => no fun h => by rw [h.1] at c; simp at c)
  have c := eq_of_beq c
  refine Tot.bind (Po s p h0 hp hz (Dr r1) (by omega)) fun r3 h3 => ?_
  subst h3
  exact Tot.cond (fun d => Tot.ret (yes c d)) (fun d => no fun h => by rw [h.2] at d; cases d)
theorem Ml (n : Int) (hn1 : 1 ≤ n) (hn5 : n ≤ 5) (h : n = 5 ∨ (s.size : Int) < p + n) {Q : Int × Int × Int → Prop} (q1 : Q (0, 0, 7)) (q2 : Q (0, 0, 2)) : Tot (fun k m m' => A7_l0 (lv k) k s p m n) Q := by
  have fin : Tot (fun k m m' => ((lv k).Ae s p).bind fun r6 => cond r6 (some ((0 : Int), (0 : Int), (7 : Int))) (some (0, 0, 2))) Q := Tot.bind (P3 s p h0 (by omega) hz) fun r _ => Tot.cond (fun _ => Tot.ret q1) (fun _ => Tot.ret q2)
  refine Tot.step0 (fun k p_ q_ => A7_l0_q (lv k) k s p p_ n) ?_
  rw [Ag (x := p + n) (by omega) (by omega)]
  by_cases h5 : n = 5
  · exact Tot.f (decide_eq_false (by omega)) fin
  · exact Tot.t (decide_eq_true (by omega)) (Tot.f (decide_eq_false (by omega)) fin)
theorem Sr : Tot (fun k _ _ => (lv k).A7 s p) (RQ s p) := by
  have b0 := Eg s p
  have hrun : Bt s p = Rn (byt s p) (byt s (p + 1)) (byt s (p + 2)) (byt s (p + 3)) (s.size - p) := by rw [Bt, if_neg (by omega)]
  have hR := O3 (byt s p) (byt s (p + 1)) (byt s (p + 2)) (byt s (p + 3)) (s.size - p) b0.1 b0.2 (by omega)
  rw [← hrun] at hR
  have ok : ∀ {r : Int × Int × Int}, Bt s p = r → RQ s p r := fun h => ⟨fun _ => h.symm, fun h' => by rw [← h]; exact h'⟩
  have bad : (Bt s p).2.2 ≠ 0 → RQ s p (0, 0, 7) ∧ RQ s p (0, 0, 2) := fun h => ⟨⟨fun e => absurd e h, fun _ => by decide⟩, ⟨fun e => absurd e h, fun _ => by decide⟩⟩
  refine A7_up _ _ (Tot.congr ?_ (fun k _ _ => A7_q (lv k) k s p))
  refine Tot.f (decide_eq_false (by omega)) (Tot.f (decide_eq_false (by omega)) (Tot.in0 (g := fun k m m' => A7_l0 (lv k) k s p m 1) ?_))
  have e : ((s.data.getD p.toNat 0).toNat : Int) = byt s p := rfl
  refine Tot.step0 (fun k p_ q_ => A7_l0_q (lv k) k s p p_ 1) ?_
  rw [Ag (x := p + 1) (by omega) (by omega), e, Ag (x := byt s p) (by omega) (by omega)]
  refine Tot.t (by rfl) (Tot.t (decide_eq_true (by omega)) (Tot.t (decide_eq_true (by omega)) (Tot.t (decide_eq_true (by omega)) (Tot.f (by rfl) ?_))))
  refine Tot.bind (Sj (byt s p)) fun r4 h4 => ?_
  subst h4
  have hlen : (Ev (Dr (byt s p))).length = (Dr (byt s p)).length := by simp [Ev]
  rw [hlen]
  have rest : ¬ byt s p < 128 → Tot (fun k m m' => A7_l0 (lv k) k s p m (IntKind.i64.wrap (1 + 1))) (RQ s p) := fun n1 => by
    rw [show IntKind.i64.wrap (1 + 1) = 2 from rfl]
    rw [if_neg n1] at hR
    by_cases f2 : p + 2 ≤ s.size
    · refine Oa s p h0 hp hz 2 _ (by omega) (by omega) f2 (Acx s p h0 hp hz f2) (fun hl hb => ?_) (fun no2 => ?_)
      · have := (Qx s p f2).1 ⟨hl, hb⟩
        rw [if_pos (by omega)] at hR
        exact ok hR
      have n2 := fun hh => no2 ((Qx s p f2).2 hh)
      rw [if_neg (fun hh => n2 ⟨hh.2.1, hh.2.2.1, hh.2.2.2.1, hh.2.2.2.2⟩)] at hR
      rw [show (2 : Int) + 1 = 3 from rfl]
      by_cases f3 : p + 3 ≤ s.size
      · refine Oa s p h0 hp hz 3 _ (by omega) (by omega) f3 (Acy s p h0 hp hz f3) (fun hl hb => ?_) (fun no3 => ?_)
        · have := (Qy s p f3).1 ⟨hl, hb⟩
          rw [if_pos ⟨by omega, this⟩] at hR
          exact ok hR
        have n3 := fun hh => no3 ((Qy s p f3).2 hh)
        rw [if_neg (fun hh => n3 hh.2)] at hR
        rw [show (3 : Int) + 1 = 4 from rfl]
        by_cases f4 : p + 4 ≤ s.size
        · refine Oa s p h0 hp hz 4 _ (by omega) (by omega) f4 (Acz s p h0 hp hz f4) (fun hl hb => ?_) (fun no4 => ?_)
          · have := (Qz s p f4).1 ⟨hl, hb⟩
            rw [if_pos ⟨by omega, this⟩] at hR
            exact ok hR
          have n4 := fun hh => no4 ((Qz s p f4).2 hh)
          rw [if_neg (fun hh => n4 hh.2)] at hR
          have hb := bad (by rw [hR]; split <;> simp)
          exact Ml s p h0 hp hz _ (by omega) (by omega) (.inl rfl) hb.1 hb.2
        · rw [if_neg (by omega)] at hR
          have hb := bad (by rw [hR]; split <;> simp)
          exact Ml s p h0 hp hz _ (by omega) (by omega) (.inr (by omega)) hb.1 hb.2
      · rw [if_neg (by omega), if_neg (by omega)] at hR
        have hb := bad (by rw [hR]; split <;> simp)
        exact Ml s p h0 hp hz _ (by omega) (by omega) (.inr (by omega)) hb.1 hb.2
    · rw [if_neg (by omega), if_neg (by omega), if_neg (by omega)] at hR
      have hb := bad (by rw [hR]; split <;> simp)
      exact Ml s p h0 hp hz _ (by omega) (by omega) (.inr (by omega)) hb.1 hb.2
  have one := Aaj _ b0.1 b0.2
  refine Tot.cond (fun c => ?_) (fun c => rest fun h => by rw [one.2 h] at c; simp at c)
  have c : (Dr (byt s p)).length = 1 := by have := eq_of_beq c; omega
  have n1 := one.1 c
  refine Tot.bind (Po s p h0 hp hz (Dr (byt s p)) (by omega)) fun r5 h5 => ?_
  have hb : beg s p (Dr (byt s p)) = true := by
    have hp1 := Sf (byt s p) ⟨b0.1, n1⟩
    rw [Kf, hp1]
    refine ⟨by simp, by simp; omega, fun i hi => ?_⟩
    obtain rfl : i = 0 := by simp at hi; omega
    simp
  rw [h5, hb]
  rw [if_pos n1] at hR
  exact Tot.t rfl (Tot.ret (ok hR))
end
theorem Lp (s : ByteArray) (j : Nat) : byt s (j : Int) = ((s.get! j).toNat : Int) := by
  unfold byt
  rw [Int.toNat_natCast]
  show _ = (((s.data[j]!).toNat : Nat) : Int)
  rw [getElem!_def, Array.getD_eq_getD_getElem?]
  cases s.data[j]? <;> rfl
theorem T9 (n b0 b1 b2 b3 : Nat) (hn : 1 ≤ n) (h0 : b0 ≤ 255) (h1 : b1 ≤ 255) (h2 : b2 ≤ 255) (h3 : b3 ≤ 255) (h : (Rn b0 b1 b2 b3 n).2.2 = 0) :
    Lib.decodeN n b0 b1 b2 b3 = ((Rn b0 b1 b2 b3 n).1.toNat, (Rn b0 b1 b2 b3 n).2.1.toNat) ∧ 1 ≤ (Rn b0 b1 b2 b3 n).2.1 ∧ (Rn b0 b1 b2 b3 n).2.1 ≤ n ∧ 0 ≤ (Rn b0 b1 b2 b3 n).1 ∧ (Rn b0 b1 b2 b3 n).1 ≤ 1114111 := by
  rw [O3 _ _ _ _ _ (by omega) (by omega) (by omega)] at h ⊢
  by_cases c1 : (b0 : Int) < 128
  · rw [if_pos c1]
    simp only
    rw [Lib.decodeN, if_pos (by omega)]
    exact ⟨Prod.ext (by simp) (by simp), by omega, by omega, by omega, by omega⟩
  rw [if_neg c1] at h ⊢
  by_cases c2 : 2 ≤ (n : Int) ∧ 194 ≤ (b0 : Int) ∧ (b0 : Int) < 224 ∧ 128 ≤ (b1 : Int) ∧ (b1 : Int) < 192
  · rw [if_pos c2]
    simp only
    rw [Lib.decodeN, if_neg (by omega), if_pos (by omega), if_pos (by omega)]
    exact ⟨Prod.ext (by simp only; omega) (by simp), by omega, by omega, by omega, by omega⟩
  rw [if_neg c2] at h ⊢
  by_cases c3 : 3 ≤ (n : Int) ∧ 224 ≤ (b0 : Int) ∧ (b0 : Int) < 240 ∧ (128 ≤ (b1 : Int) ∧ (b1 : Int) < 192) ∧ ¬ ((b0 : Int) = 224 ∧ (b1 : Int) < 160 ∨ (b0 : Int) = 237 ∧ 160 ≤ (b1 : Int)) ∧ 128 ≤ (b2 : Int) ∧ (b2 : Int) < 192
  · rw [if_pos c3]
    simp only
    rw [Lib.decodeN, if_neg (by omega), if_neg (by omega), if_pos (by omega), if_pos (by omega)]
    exact ⟨Prod.ext (by simp only; omega) (by simp), by omega, by omega, by omega, by omega⟩
  rw [if_neg c3] at h ⊢
  by_cases c4 : 4 ≤ (n : Int) ∧ 240 ≤ (b0 : Int) ∧ (b0 : Int) < 245 ∧ (128 ≤ (b1 : Int) ∧ (b1 : Int) < 192) ∧ ¬ ((b0 : Int) = 240 ∧ (b1 : Int) < 144 ∨ (b0 : Int) = 244 ∧ 144 ≤ (b1 : Int)) ∧ (128 ≤ (b2 : Int) ∧ (b2 : Int) < 192) ∧ 128 ≤ (b3 : Int) ∧ (b3 : Int) < 192
  · rw [if_pos c4]
    simp only
    rw [Lib.decodeN, if_neg (by omega), if_neg (by omega), if_neg (by omega), if_pos (by omega), if_pos (by omega)]
    exact ⟨Prod.ext (by simp only; omega) (by simp), by omega, by omega, by omega, by omega⟩
  rw [if_neg c4] at h
  exfalso
  split at h <;> simp at h
theorem Jy (s : ByteArray) (i : Nat) (hi : i < s.size) (h : (Bt s i).2.2 = 0) : Utf8.decode s i = ((Bt s i).1.toNat, (Bt s i).2.1.toNat) ∧ 1 ≤ (Bt s i).2.1 ∧ (i : Int) + (Bt s i).2.1 ≤ s.size ∧ 0 ≤ (Bt s i).1 ∧ (Bt s i).1 ≤ 1114111 := by
  have hb : ∀ j : Nat, (s.get! j).toNat ≤ 255 := fun j => by have := (s.get! j).toNat_lt; omega
  have e : Bt s i = Rn ((s.get! i).toNat : Nat) ((s.get! (i + 1)).toNat : Nat) ((s.get! (i + 2)).toNat : Nat) ((s.get! (i + 3)).toNat : Nat) ((s.size - i : Nat) : Int) := by
    rw [Bt, if_neg (by omega), Lp, show (i : Int) + 1 = ((i + 1 : Nat) : Int) by omega, show (i : Int) + 2 = ((i + 2 : Nat) : Int) by omega, show (i : Int) + 3 = ((i + 3 : Nat) : Int) by omega, Lp, Lp, Lp, show (s.size : Int) - i = ((s.size - i : Nat) : Int) by omega]
  rw [e] at h ⊢
  obtain ⟨r1, r2, r3, r4, r5⟩ := T9 _ _ _ _ _ (by omega) (hb _) (hb _) (hb _) (hb _) h
  exact ⟨(Lib.decode_at s i).trans r1, r2, by omega, r4, r5⟩
def Em (s : ByteArray) : Nat → Nat → Option (List Int)
  | 0, _ => some []
  | b + 1, i => if i < s.size then (if (Bt s i).2.2 = 0 then (Em s b (i + (Bt s i).2.1.toNat)).map ((Bt s i).1 :: ·) else none) else some []
def E7 (r : Int) : Prop := r = 9 ∨ r = 10 ∨ r = 13 ∨ (32 ≤ r ∧ r < 55296) ∨ (57344 ≤ r ∧ r ≤ 65533) ∨ (65536 ≤ r ∧ r ≤ 1114111)
def okV (s : ByteArray) : Prop := ∃ l, Em s s.size 0 = some l ∧ ∀ x, x ∈ l → E7 x
theorem Aaw (r : Int) : Tot (fun k _ _ => (lv k).Cq r) (fun b => b = true ↔ E7 r) := by
  have bl : Tot (fun k _ _ => (lv k).Cp r) (fun b => b = true ↔ r = 9 ∨ r = 10 ∨ r = 13 ∨ r = 32) := by
    refine Cp_up _ (Tot.congr ?_ (fun k _ _ => Cp_q (lv k) k r))
    refine Tot.cond (fun c => Tot.ret ?_) (fun c => Tot.cond (fun c' => Tot.ret ?_) (fun c' => Tot.cond (fun c'' => Tot.ret ?_) (fun c'' => Tot.ret ?_)))
    · have := eq_of_beq c; simp [this]
    · have := eq_of_beq c'; simp [this]
    · have := eq_of_beq c''; simp [this]
    · have h1 := ne_of_beq_false c; have h2 := ne_of_beq_false c'; have h3 := ne_of_beq_false c''
      rw [beq_iff_eq]; omega
  refine Cq_up _ (Tot.congr ?_ (fun k _ _ => Cq_q (lv k) k r))
  have last : ¬ r < 32 → ¬ (55296 ≤ r ∧ r < 57344) → Tot (fun _ _ _ => cond (r == (65534 : Int)) (some false) (cond (r == (65535 : Int)) (some false) (some (decide (r ≤ (1114111 : Int)))))) (fun b => b = true ↔ E7 r) := fun h1 h2 => by
    refine Tot.cond (fun c => Tot.ret ?_) (fun c => Tot.cond (fun c' => Tot.ret ?_) (fun c' => Tot.ret ?_))
    · have := eq_of_beq c; unfold E7; simp; omega
    · have := eq_of_beq c'; unfold E7; simp; omega
    · have h3 := ne_of_beq_false c; have h4 := ne_of_beq_false c'
      unfold E7; rw [decide_eq_true_eq]; omega
  refine Tot.cond (fun c => Tot.bind bl fun b hb => Tot.ret ?_) (fun c => Tot.cond (fun c1 => Tot.cond (fun c2 => Tot.ret ?_) (fun c2 => last (of_decide_eq_false c) fun h => of_decide_eq_false c2 h.2)) (fun c1 => last (of_decide_eq_false c) fun h => of_decide_eq_false c1 h.1))
  · have c := of_decide_eq_true c
    rw [hb]; unfold E7; omega
  · have c1 := of_decide_eq_true c1; have c2 := of_decide_eq_true c2
    unfold E7; simp; omega
theorem Nt (r : Int) (l : LL) (hl : l.length ≤ 100) : Tot (fun k _ _ => (lv k).Bq r l) (fun b => b = true ↔ ∃ i, i < l.length ∧ gi (l.getD i []) 0 ≤ r ∧ r ≤ gi (l.getD i []) 1) := by
  refine Bq_up _ _ (Tot.congr ?_ (fun k _ _ => Bq_q (lv k) k r l))
  refine Tot.in0 (Tot.loop (H := fun k x y v (_ : Unit) => Bq_l0 (lv k) k r l x v) (n := l.length) (fun i _ => ∀ j, j < i → ¬ (gi (l.getD j []) 0 ≤ r ∧ r ≤ gi (l.getD j []) 1)) (by omega) (fun _ h => ?_) (fun i _ hi h next => ?_) _ 0 () rfl (by omega) (fun j hj => by omega))
  · refine Tot.step0 (fun k p_ q_ => Bq_l0_q (lv k) k r l p_ _) ?_
    exact Tot.f (decide_eq_false (by omega)) (Tot.ret ⟨fun e => (by cases e), fun ⟨i, hi, hx⟩ => absurd hx (h i hi)⟩)
  · refine Tot.step0 (fun k p_ q_ => Bq_l0_q (lv k) k r l p_ _) ?_
    rw [Int.toNat_natCast]
    repeat (refine Tot.t (decide_eq_true (by omega)) ?_)
    refine Tot.cond (fun c => Tot.cond (fun c' => Tot.ret ⟨fun _ => ⟨i, hi, of_decide_eq_true c, of_decide_eq_true c'⟩, fun _ => rfl⟩) (fun c' => next () (fun j hj => ?_))) (fun c => next () (fun j hj => ?_))
    · rcases Nat.lt_or_ge j i with h2 | h2
      · exact h j h2
      · rw [show j = i by omega]; exact fun e => of_decide_eq_false c' e.2
    · rcases Nat.lt_or_ge j i with h2 | h2
      · exact h j h2
      · rw [show j = i by omega]; exact fun e => of_decide_eq_false c e.1
theorem Vx (r : Int) : Tot (fun k _ _ => (lv k).C8 r) (fun b => b = true ↔ E7 r) := by
  have bl : Tot (fun k _ _ => (lv k).C7 r) (fun b => b = true ↔ r = 9 ∨ r = 10 ∨ r = 13 ∨ r = 32) := by
    refine C7_up _ (Tot.congr ?_ (fun k _ _ => C7_q (lv k) k r))
    refine Tot.cond (fun c => Tot.t c (Tot.ret ?_)) (fun c => Tot.cond (fun c' => Tot.t c' (Tot.ret ?_)) (fun c' => Tot.cond (fun c'' => Tot.t c'' (Tot.ret ?_)) (fun c'' => Tot.cond (fun d => Tot.ret ?_) (fun d => Tot.ret ?_))))
    · have := eq_of_beq c; simp [this]
    · have := eq_of_beq c'; simp [this]
    · have := eq_of_beq c''; simp [this]
    · have := eq_of_beq d; simp [this]
    · have h1 := ne_of_beq_false c; have h2 := ne_of_beq_false c'; have h3 := ne_of_beq_false c''; have h4 := ne_of_beq_false d
      exact ⟨fun e => (by cases e), fun e => by omega⟩
  refine C8_up _ (Tot.congr ?_ (fun k _ _ => C8_q (lv k) k r))
  refine Tot.bind bl fun b hb => Tot.cond (fun c => Tot.ret ⟨fun _ => ?_, fun _ => rfl⟩) (fun c => Tot.bind (Nt r _ (by decide)) fun b2 hb2 => Tot.ret ?_)
  · have := hb.1 c
    unfold E7; omega
  · have hn : ¬ (r = 9 ∨ r = 10 ∨ r = 13 ∨ r = 32) := fun h => by rw [hb.2 h] at c; cases c
    rw [hb2]
    constructor
    · rintro ⟨i, hi, h1, h2⟩
      rcases (show i = 0 ∨ i = 1 ∨ i = 2 by simp at hi; omega) with rfl | rfl | rfl
      · have h1 : (32 : Int) ≤ r := h1; have h2 : r ≤ (55295 : Int) := h2; unfold E7; omega
      · have h1 : (57344 : Int) ≤ r := h1; have h2 : r ≤ (65533 : Int) := h2; unfold E7; omega
      · have h1 : (65536 : Int) ≤ r := h1; have h2 : r ≤ (1114111 : Int) := h2; unfold E7; omega
    · intro h
      unfold E7 at h
      rcases (show (32 ≤ r ∧ r ≤ 55295) ∨ (57344 ≤ r ∧ r ≤ 65533) ∨ (65536 ≤ r ∧ r ≤ 1114111) by omega) with h | h | h
      · exact ⟨0, by decide, h⟩
      · exact ⟨1, by decide, h⟩
      · exact ⟨2, by decide, h⟩
section
variable (s : ByteArray) (hz : s.size ≤ 1048576)
include hz
theorem Acw : Tot (fun k _ _ => (lv k).Bl s) (fun r => r.2.2 = 0 ↔ ∃ l, Em s s.size 0 = some l) := by
  have loop : ∀ (b i : Nat) (v : LL), s.size - i ≤ b → i ≤ s.size → v.length ≤ i → Tot (fun k m m' => Bl_l1 (lv k) k s m (i : Int) v) (fun r => r.2.2 = 0 ↔ ∃ l, Em s b i = some l) := by
    intro b
    induction b with
    | zero =>
      intro i v hb hi hv
      refine Tot.step0 (fun k p_ q_ => Bl_l1_q (lv k) k s p_ (i : Int) v) ?_
      exact Tot.f (decide_eq_false (by omega)) (Tot.ret ⟨fun _ => ⟨_, rfl⟩, fun _ => rfl⟩)
    | succ b ih =>
      intro i v hb hi hv
      refine Tot.step0 (fun k p_ q_ => Bl_l1_q (lv k) k s p_ (i : Int) v) ?_
      rw [Em]
      refine Tot.cond (fun c => ?_) (fun c => Tot.ret ?_)
      · have c := of_decide_eq_true c
        rw [if_pos (by omega)]
        refine Tot.bind (S4 s i (by omega) c (by omega)) fun r hr => ?_
        subst hr
        refine Tot.cond (fun d => Tot.ret ?_) (fun d => ?_)
        · have d : (Bt s i).2.2 ≠ 0 := by simpa using d
          rw [if_neg d]
          exact ⟨fun e => absurd e d, fun ⟨l, hl⟩ => by cases hl⟩
        · have d : (Bt s i).2.2 = 0 := by simpa using d
          obtain ⟨_, r2, r3, _, _⟩ := Jy s i (by omega) d
          rw [if_pos d, Ag (x := (i : Int) + (Bt s i).2.1) (by omega) (by omega), show (i : Int) + (Bt s i).2.1 = ((i + (Bt s i).2.1.toNat : Nat) : Int) by omega]
          refine Tot.t (D2 (of_decide_eq_true (by kernel_rfl)) (by omega)) ((ih _ _ (by omega) (by omega) (by rw [List.length_append]; simp; omega)).mono fun r hr => hr.trans ?_)
          cases Em s b (i + (Bt s i).2.1.toNat) with
          | none => exact ⟨fun ⟨_, e⟩ => (by cases e), fun ⟨_, e⟩ => by cases e⟩
          | some l => exact ⟨fun _ => ⟨_, rfl⟩, fun _ => ⟨_, rfl⟩⟩
      · rw [if_neg (by have := of_decide_eq_false c; omega)]
        exact ⟨fun _ => ⟨_, rfl⟩, fun _ => rfl⟩
  refine Bl_up _ (Tot.congr ?_ (fun k _ _ => Bl_q (lv k) k s))
  refine Tot.in0 (g := fun k m m' => Bl_l0 (lv k) k s m) ?_
  refine Tot.step0 (fun k p_ q_ => Bl_l0_q (lv k) k s p_ ) ?_
  have first := loop s.size 0 [] (by omega) (by omega) (by simp)
  refine Tot.cond (fun c => ?_) (fun c => Tot.ret ?_)
  · have c := of_decide_eq_true c
    obtain ⟨n, hn⟩ : ∃ n, s.size = n + 1 := ⟨s.size - 1, by omega⟩
    rw [hn, Em, if_pos (by omega)]
    refine Tot.bind (S4 s 0 (by omega) c (by omega)) fun r hr => ?_
    subst hr
    refine Tot.cond (fun d => Tot.ret ?_) (fun d => ?_)
    · have d : (Bt s ((0 : Nat) : Int)).2.2 ≠ 0 := by simpa using d
      rw [if_neg d]
      exact ⟨fun e => absurd e d, fun ⟨l, hl⟩ => by cases hl⟩
    · have d : (Bt s ((0 : Nat) : Int)).2.2 = 0 := by simpa using d
      obtain ⟨_, r2, r3, _, _⟩ := Jy s 0 (by omega) d
      rw [if_pos d]
      have e0 : IntKind.i64.wrap (0 + (Bt s 0).2.1) = ((0 + (Bt s ((0 : Nat) : Int)).2.1.toNat : Nat) : Int) := by
        have r2' : 1 ≤ (Bt s 0).2.1 := r2
        have r3' : (0 : Int) + (Bt s 0).2.1 ≤ s.size := r3
        show IntKind.i64.wrap (0 + (Bt s 0).2.1) = ((0 + (Bt s 0).2.1.toNat : Nat) : Int)
        rw [Ag (by omega) (by omega)]; omega
      rw [e0]
      refine (loop n _ _ (by omega) (by omega) (by show 1 ≤ _; omega)).mono fun r hr => hr.trans ?_
      cases Em s n (0 + (Bt s ((0 : Nat) : Int)).2.1.toNat) with
      | none => exact ⟨fun ⟨_, e⟩ => (by cases e), fun ⟨_, e⟩ => by cases e⟩
      | some l => exact ⟨fun _ => ⟨_, rfl⟩, fun _ => ⟨_, rfl⟩⟩
  · have c := of_decide_eq_false c
    rw [show s.size = 0 by omega]
    exact ⟨fun _ => ⟨_, rfl⟩, fun _ => rfl⟩
omit hz in
theorem Abp : ∀ (b i : Nat) (l : List Int), Em s b i = some l → ∀ x, x ∈ l → 0 ≤ x ∧ x ≤ 1114111 := by
  intro b
  induction b with
  | zero => intro i l h x hx; cases h; cases hx
  | succ b ih =>
    intro i l h x hx
    rw [Em] at h
    by_cases c : i < s.size
    · rw [if_pos c] at h
      by_cases d : (Bt s i).2.2 = 0
      · rw [if_pos d] at h
        obtain ⟨l', h1, rfl⟩ := Option.map_eq_some_iff.1 h
        rcases List.mem_cons.1 hx with rfl | hx
        · exact (Jy s i c d).2.2.2
        · exact ih _ _ h1 x hx
      · rw [if_neg d] at h; cases h
    · rw [if_neg c] at h; cases h; cases hx
theorem Aau : Tot (fun k _ _ => (lv k).A6 s) (fun r => (∀ l, Em s s.size 0 = some l → r.2.2 = 0 ∧ r.1 = l.map fun x => [C.int .i32 x]) ∧ (Em s s.size 0 = none → r.2.2 ≠ 0) ∧ r.1.length ≤ 1048576) := by
  have i32w : ∀ x : Int, 0 ≤ x → x ≤ 1114111 → IntKind.i32.wrap x = x := fun x h1 h2 => wraps_i32 x h1 (by omega)
  have loop : ∀ (b i : Nat) (v : LL), s.size - i ≤ b → i ≤ s.size → v.length ≤ i → Tot (fun k m m' => A6_l1 (lv k) k s m (i : Int) v) (fun r => (∀ l, Em s b i = some l → r.2.2 = 0 ∧ r.1 = v ++ l.map fun x => [C.int .i32 x]) ∧ (Em s b i = none → r.2.2 ≠ 0) ∧ r.1.length ≤ 1048576) := by
    intro b
    induction b with
    | zero =>
      intro i v hb hi hv
      refine Tot.step0 (fun k p_ q_ => A6_l1_q (lv k) k s p_ (i : Int) v) ?_
      exact Tot.f (decide_eq_false (by omega)) (Tot.ret ⟨fun l hl => ⟨rfl, by cases hl; simp⟩, fun h => (by cases h), by show v.length ≤ _; omega⟩)
    | succ b ih =>
      intro i v hb hi hv
      refine Tot.step0 (fun k p_ q_ => A6_l1_q (lv k) k s p_ (i : Int) v) ?_
      rw [Em]
      refine Tot.cond (fun c => ?_) (fun c => Tot.ret ?_)
      · have c := of_decide_eq_true c
        rw [if_pos (by omega)]
        refine Tot.bind (Sr s i (by omega) c (by omega)) fun r hr => ?_
        refine Tot.cond (fun d => Tot.ret ?_) (fun d => ?_)
        · have d : r.2.2 ≠ 0 := by simpa using d
          have d' : (Bt s i).2.2 ≠ 0 := fun h => d (by rw [hr.1 h]; exact h)
          rw [if_neg d']
          exact ⟨fun l hl => (by cases hl), fun _ => d, by show v.length ≤ _; omega⟩
        · have d : r.2.2 = 0 := by simpa using d
          have d' : (Bt s i).2.2 = 0 := Classical.byContradiction fun h => hr.2 h d
          have e := hr.1 d'
          subst e
          obtain ⟨_, r2, r3, r4, r5⟩ := Jy s i (by omega) d'
          rw [if_pos d', Ag (x := (i : Int) + (Bt s i).2.1) (by omega) (by omega), i32w _ r4 r5, show (i : Int) + (Bt s i).2.1 = ((i + (Bt s i).2.1.toNat : Nat) : Int) by omega]
          refine Tot.t (D2 (of_decide_eq_true (by kernel_rfl)) (by omega)) ((ih _ _ (by omega) (by omega) (by rw [List.length_append]; simp; omega)).mono fun r hr => ?_)
          cases hx : Em s b (i + (Bt s i).2.1.toNat) with
          | none => exact ⟨fun l hl => (by cases hl), fun _ => hr.2.1 hx, hr.2.2⟩
          | some l =>
            refine ⟨fun l' hl => ?_, fun h => (by cases h), hr.2.2⟩
            cases hl
            obtain ⟨q1, q2⟩ := hr.1 l hx
            exact ⟨q1, by rw [q2]; simp⟩
      · have c := of_decide_eq_false c
        rw [if_neg (by omega)]
        exact ⟨fun l hl => ⟨rfl, by cases hl; simp⟩, fun h => (by cases h), by show v.length ≤ _; omega⟩
  refine A6_up _ (Tot.congr ?_ (fun k _ _ => A6_q (lv k) k s))
  refine Tot.in0 (g := fun k m m' => A6_l0 (lv k) k s m) ?_
  refine Tot.step0 (fun k p_ q_ => A6_l0_q (lv k) k s p_ ) ?_
  refine Tot.cond (fun c => ?_) (fun c => Tot.ret ?_)
  · have c := of_decide_eq_true c
    obtain ⟨n, hn⟩ : ∃ n, s.size = n + 1 := ⟨s.size - 1, by omega⟩
    rw [hn, Em, if_pos (by omega)]
    refine Tot.bind (Sr s 0 (by omega) c (by omega)) fun r hr => ?_
    refine Tot.cond (fun d => Tot.ret ?_) (fun d => ?_)
    · have d : r.2.2 ≠ 0 := by simpa using d
      have d' : (Bt s ((0 : Nat) : Int)).2.2 ≠ 0 := fun h => d (by rw [hr.1 h]; exact h)
      rw [if_neg d']
      exact ⟨fun l hl => (by cases hl), fun _ => d, Nat.zero_le _⟩
    · have d : r.2.2 = 0 := by simpa using d
      have d' : (Bt s ((0 : Nat) : Int)).2.2 = 0 := Classical.byContradiction fun h => hr.2 h d
      have e : r = Bt s ((0 : Nat) : Int) := hr.1 d'
      subst e
      obtain ⟨_, r2, r3, r4, r5⟩ := Jy s 0 (by omega) d'
      rw [if_pos d', i32w _ r4 r5, show IntKind.i64.wrap (0 + (Bt s ((0 : Nat) : Int)).2.1) = ((0 + (Bt s ((0 : Nat) : Int)).2.1.toNat : Nat) : Int) by rw [Ag (by omega) (by omega)]; omega]
      refine (loop n _ _ (by omega) (by omega) (by show 1 ≤ _; omega)).mono fun r hr => ?_
      cases hx : Em s n (0 + (Bt s ((0 : Nat) : Int)).2.1.toNat) with
      | none => exact ⟨fun l hl => (by cases hl), fun _ => hr.2.1 hx, hr.2.2⟩
      | some l =>
        refine ⟨fun l' hl => ?_, fun h => (by cases h), hr.2.2⟩
        cases hl
        obtain ⟨q1, q2⟩ := hr.1 l hx
        exact ⟨q1, by rw [q2]; simp⟩
  · have c := of_decide_eq_false c
    rw [show s.size = 0 by omega]
    exact ⟨fun l hl => ⟨rfl, by cases hl; rfl⟩, fun h => (by cases h), Nat.zero_le _⟩
theorem Mg : Tot (fun k _ _ => (lv k).A9 s) (fun r => r = true ↔ okV s) := by
  refine A9_up _ (Tot.congr ?_ (fun k _ _ => A9_q (lv k) k s))
  refine Tot.bind (Aau s hz) fun r ⟨h1, h2, h3⟩ => ?_
  refine Tot.in0 (Tot.loop (H := fun k x y v (_ : Unit) => A9_l0 (lv k) k s x r.2.2 v r.1) (n := r.1.length) (fun i _ => ∀ l, Em s s.size 0 = some l → ∀ j, j < i → E7 (l.getD j 0)) (by omega) (fun _ h => ?_) (fun i _ hi h next => ?_) _ 0 () rfl (by omega) (fun l _ j hj => by omega))
  · refine Tot.step0 (fun k p_ q_ => A9_l0_q (lv k) k s p_ r.2.2 _ r.1) ?_
    refine Tot.f (decide_eq_false (by omega)) (Tot.ret ?_)
    rw [beq_iff_eq]
    constructor
    · intro e
      cases hx : Em s s.size 0 with
      | none => exact absurd e (h2 hx)
      | some l =>
        refine ⟨l, hx, fun x hm => ?_⟩
        obtain ⟨j, hj, rfl⟩ := List.getElem_of_mem hm
        have := h l hx j (by rw [(h1 l hx).2]; simpa using hj)
        rwa [List.getD_eq_getElem?_getD, List.getElem?_eq_getElem hj] at this
    · rintro ⟨l, hl, _⟩
      exact (h1 l hl).1
  · refine Tot.step0 (fun k p_ q_ => A9_l0_q (lv k) k s p_ r.2.2 _ r.1) ?_
    rw [Int.toNat_natCast]
    repeat (refine Tot.t (decide_eq_true (by omega)) ?_)
    refine Tot.bind (Aaw _) fun r1 hr1 => Tot.cond (fun c => Tot.ret ⟨fun e => (by cases e), fun ⟨l, hl, hc⟩ => ?_⟩) (fun c => next () (fun l hl j hj => ?_))
    all_goals
      obtain ⟨e1, e2⟩ := h1 l hl
      have hi' : i < l.length := by rw [e2] at hi; simpa using hi
      have eg : gi (r.1.getD i []) 0 = l.getD i 0 := by
        rw [e2, List.getD_eq_getElem?_getD, List.getElem?_map, List.getElem?_eq_getElem hi', List.getD_eq_getElem?_getD, List.getElem?_eq_getElem hi']
        rfl
    · have hc' := hc _ (D1 (d := 0) hi')
      have : IntKind.i64.wrap (l.getD i 0) = l.getD i 0 := by unfold E7 at hc'; rw [Ag (by omega) (by omega)]
      rw [eg, this] at hr1
      rw [hr1.2 hc'] at c
      cases c
    · rcases Nat.lt_or_ge j i with h4 | h4
      · exact h l hl j h4
      · have hji : j = i := by omega
        subst hji
        have hc := hr1.1 (by simpa using c)
        rw [eg] at hc
        have hw : IntKind.i64.wrap (l.getD j 0) = l.getD j 0 := by
          refine Ag ?_ ?_
          all_goals
            have := Abp s s.size 0 l hl _ (D1 (d := 0) hi')
            omega
        rwa [hw] at hc
end
theorem Pr {s : ByteArray} (h : s.size = 0) : s = ⟨#[]⟩ := by
  obtain ⟨d⟩ := s
  have h : d.size = 0 := h
  rw [Array.eq_empty_of_size_eq_zero h]
theorem U9 (s : ByteArray) : ∀ (b i : Nat) (x : Int), x ∈ Ed s b i → 0 ≤ x ∧ x ≤ 2147483647 := by
  intro b
  induction b with
  | zero => intro i x h; cases h
  | succ b ih =>
    intro i x h
    rw [Ed] at h
    by_cases c : i < s.size
    · rw [if_pos c] at h
      rcases List.mem_cons.1 h with rfl | h
      · have := decode_le s i
        omega
      · exact ih _ _ h
    · rw [if_neg c] at h; cases h
def inP (r : Int) : LL → Prop
  | [] => False
  | x :: l => (gi x 0 ≤ r ∧ r ≤ gi x 1) ∨ inP r l
theorem Qh (r : Int) : ∀ l : LL, (∃ i, i < l.length ∧ gi (l.getD i []) 0 ≤ r ∧ r ≤ gi (l.getD i []) 1) ↔ inP r l := by
  intro l
  induction l with
  | nil => exact ⟨fun ⟨i, h, _⟩ => absurd h (Nat.not_lt_zero _), fun h => h.elim⟩
  | cons x l ih =>
    constructor
    · rintro ⟨i, hi, h⟩
      cases i with
      | zero => exact .inl h
      | succ i => exact .inr (ih.1 ⟨i, by simpa using hi, h⟩)
    · rintro (h | h)
      · exact ⟨0, by simp, h⟩
      · obtain ⟨i, hi, h⟩ := ih.2 h
        exact ⟨i + 1, by simpa using hi, h⟩
def Iz (r : Int) : Prop := (65 ≤ r ∧ r ≤ 90) ∨ (97 ≤ r ∧ r ≤ 122) ∨ (95 ≤ r ∧ r ≤ 95) ∨ (192 ≤ r ∧ r ≤ 214) ∨ (216 ≤ r ∧ r ≤ 246) ∨ (248 ≤ r ∧ r ≤ 767) ∨ (880 ≤ r ∧ r ≤ 893) ∨ (895 ≤ r ∧ r ≤ 8191) ∨ (8204 ≤ r ∧ r ≤ 8205) ∨ (8304 ≤ r ∧ r ≤ 8591) ∨ (11264 ≤ r ∧ r ≤ 12271) ∨ (12289 ≤ r ∧ r ≤ 55295) ∨ (63744 ≤ r ∧ r ≤ 64975) ∨ (65008 ≤ r ∧ r ≤ 65533) ∨ (65536 ≤ r ∧ r ≤ 983039)
def Ju (r : Int) : Prop := Iz r ∨ (45 ≤ r ∧ r ≤ 46) ∨ (48 ≤ r ∧ r ≤ 57) ∨ (183 ≤ r ∧ r ≤ 183) ∨ (768 ≤ r ∧ r ≤ 879) ∨ (8255 ≤ r ∧ r ≤ 8256)
theorem Se (r : Int) : Tot (fun k _ _ => (lv k).C1 r) (fun b => b = true ↔ Iz r) := by
  refine C1_up _ (Tot.congr ?_ (fun k _ _ => C1_q (lv k) k r))
  refine Tot.bind (Nt r _ (by decide)) fun b hb => Tot.ret ?_
  rw [hb, Qh]
  simp only [inP, or_false]
  exact Iff.rfl
theorem Sd (r : Int) : Tot (fun k _ _ => (lv k).C0 r) (fun b => b = true ↔ Ju r) := by
  refine C0_up _ (Tot.congr ?_ (fun k _ _ => C0_q (lv k) k r))
  refine Tot.bind (Se r) fun b hb => Tot.cond (fun c => Tot.ret ⟨fun _ => .inl (hb.1 c), fun _ => rfl⟩) (fun c => Tot.bind (Nt r _ (by decide)) fun b2 hb2 => Tot.ret ?_)
  have hn : ¬ Iz r := fun h => by rw [hb.2 h] at c; cases c
  rw [hb2, Qh]
  simp only [inP, or_false]
  exact ⟨fun h => .inr h, fun h => h.resolve_left hn⟩
set_option maxRecDepth 100000 in
theorem Sw (r : Int) : Tot (fun k _ _ => (lv k).Cj r) (fun b => b = true ↔ Iz r) := by
  refine Cj_up _ (Tot.congr ?_ (fun k _ _ => Cj_q (lv k) k r))
  repeat' first
    | refine Tot.cond (fun _ => ?_) (fun _ => ?_)
    | refine Tot.ret ?_
  all_goals
    simp only [decide_eq_true_eq, decide_eq_false_iff_not, beq_iff_eq, beq_eq_false_iff_ne, ne_eq, true_iff, reduceCtorEq, false_iff, Bool.false_eq_true] at *
    unfold Iz
    omega
set_option maxRecDepth 100000 in
theorem Abc (r : Int) : Tot (fun k _ _ => (lv k).Cr r) (fun b => b = true ↔ Ju r) := by
  refine Cr_up _ (Tot.congr ?_ (fun k _ _ => Cr_q (lv k) k r))
  refine Tot.bind (Sw r) fun b hb => Tot.cond (fun c => Tot.ret ⟨fun _ => .inl (hb.1 c), fun _ => rfl⟩) (fun c => ?_)
  have hn : ¬ Iz r := fun h => by rw [hb.2 h] at c; cases c
  have key : ∀ {q : Prop}, (q ↔ (45 ≤ r ∧ r ≤ 46) ∨ (48 ≤ r ∧ r ≤ 57) ∨ (183 ≤ r ∧ r ≤ 183) ∨ (768 ≤ r ∧ r ≤ 879) ∨ (8255 ≤ r ∧ r ≤ 8256)) → (q ↔ Ju r) := fun h => h.trans ⟨fun h => .inr h, fun h => h.resolve_left hn⟩
  clear hn hb c
  repeat' first
    | refine Tot.cond (fun _ => ?_) (fun _ => ?_)
    | refine Tot.ret (key ?_)
  all_goals
    clear key
    simp only [decide_eq_true_eq, decide_eq_false_iff_not, beq_iff_eq, beq_eq_false_iff_ne, ne_eq, true_iff, reduceCtorEq, false_iff, Bool.false_eq_true] at *
    omega
section
variable (s : ByteArray) (hz : s.size ≤ 1048576)
include hz
omit hz in
theorem Vv : ∀ (b i : Nat) (l : List Int), Em s b i = some l → s.size - i ≤ b → Tot (fun k m m' => Bd_l0 (lv k) k s m i) (fun r => r = true ↔ ∀ x, x ∈ l → E7 x) := by
  intro b
  induction b with
  | zero =>
    intro i l h hb
    cases h
    refine Tot.step0 (fun k p_ q_ => Bd_l0_q (lv k) k s p_ i) ?_
    exact Tot.f (decide_eq_false (by omega)) (Tot.ret ⟨fun _ x hx => (by cases hx), fun _ => rfl⟩)
  | succ b ih =>
    intro i l h hb
    rw [Em] at h
    refine Tot.step0 (fun k p_ q_ => Bd_l0_q (lv k) k s p_ i) ?_
    refine Tot.cond (fun c => ?_) (fun c => ?_)
    · have c := of_decide_eq_true c
      rw [if_pos c] at h
      by_cases d : (Bt s i).2.2 = 0
      · rw [if_pos d] at h
        obtain ⟨l', h1, rfl⟩ := Option.map_eq_some_iff.1 h
        obtain ⟨e, r2, r3, r4, r5⟩ := Jy s i c d
        rw [e]
        have er : (((Bt s i).1.toNat : Nat) : Int) = (Bt s i).1 := by omega
        show Tot (fun k m m' => Bd_l1 (lv k) k s m k (((Bt s i).1.toNat : Nat) : Int) false 0 (i + (Bt s i).2.1.toNat)) _
        rw [er]
        refine Tot.in1 (g := fun k m m' => Bd_l1 (lv k) k s m m' (Bt s i).1 false 0 (i + (Bt s i).2.1.toNat)) ?_
        refine Tot.step1 (fun k p_ q_ => Bd_l1_q (lv k) k s p_ q_ (Bt s i).1 false 0 (i + (Bt s i).2.1.toNat)) ?_
        refine Tot.t (by rfl) (Tot.t (by rfl) (Tot.f (by rfl) (Tot.bind (Vx _) fun r1 hr1 => ?_)))
        rw [show IntKind.i64.wrap ((0 : Int) + 1) = 1 from rfl]
        refine Tot.step1 (fun k p_ q_ => Bd_l1_q (lv k) k s p_ q_ (Bt s i).1 r1 1 (i + (Bt s i).2.1.toNat)) ?_
        refine Tot.f (by rfl) (Tot.cond (fun c1 => Tot.ret ⟨fun e => (by cases e), fun e => ?_⟩) (fun c1 => ?_))
        · rw [hr1.2 (e _ (List.mem_cons_self ..))] at c1; cases c1
        · have c1 : r1 = true := by simpa using c1
          refine (ih _ _ h1 (by omega)).mono fun r hr => hr.trans ⟨fun e x hx => ?_, fun e x hx => e x (List.mem_cons_of_mem _ hx)⟩
          rcases List.mem_cons.1 hx with rfl | hx
          · exact hr1.1 c1
          · exact e x hx
      · rw [if_neg d] at h; cases h
    · rw [if_neg (of_decide_eq_false c)] at h
      cases h
      exact Tot.ret ⟨fun _ x hx => (by cases hx), fun _ => rfl⟩
theorem Mw : Tot (fun k _ _ => (lv k).Cv s) (fun r => r = true ↔ okV s) := by
  refine Cv_up _ (Tot.congr ?_ (fun k _ _ => Cv_q (lv k) k s))
  refine Tot.bind (Acw s hz) fun r hr => Tot.cond (fun c => ?_) (fun c => Tot.ret ⟨fun e => (by cases e), fun ⟨l, hl, _⟩ => ?_⟩)
  · obtain ⟨l, hl⟩ := hr.1 (eq_of_beq c)
    refine Tot.bind (R := fun r => r = true ↔ ∀ x, x ∈ l → E7 x) ?_ fun r2 hr2 => Tot.ret (hr2.trans ⟨fun e => ⟨l, hl, e⟩, fun ⟨l', hl', e⟩ => by rw [hl] at hl'; cases hl'; exact e⟩)
    refine Bd_up _ (Tot.congr ?_ (fun k _ _ => Bd_q (lv k) k s))
    exact Tot.in0 (Vv s _ _ _ hl (by omega))
  · exact absurd (hr.2 ⟨l, hl⟩) (ne_of_beq_false c)
def K6 (s : ByteArray) : Prop := s.size ≠ 0 ∧ Iz ((Ed s s.size 0).getD 0 0) ∧ ∀ x, x ∈ Ed s s.size 0 → Ju x
theorem Z8 : ∀ (b i : Nat), 0 < i → s.size - i ≤ b → Tot (fun k m m' => Br_l0 (lv k) k s m i) (fun r => r = true ↔ s.size ≠ 0 ∧ ∀ x, x ∈ Ed s b i → Ju x) := by
  have fin : Tot (fun _ _ _ => some (!(s.toList == (⟨#[]⟩ : ByteArray).toList))) (fun r => r = true ↔ s.size ≠ 0) := by
    refine Tot.ret ?_
    rw [Bool.not_eq_true', Bool.eq_false_iff, ne_eq, Fm]
    constructor
    · intro h e
      apply h
      apply Pr
      exact e
    · intro h e
      rw [e] at h
      exact h rfl
  intro b
  induction b with
  | zero =>
    intro i hi hb
    refine Tot.step0 (fun k p_ q_ => Br_l0_q (lv k) k s p_ i) ?_
    exact Tot.f (decide_eq_false (by omega)) (fin.mono fun r hr => hr.trans ⟨fun e => ⟨e, fun x hx => (by cases hx)⟩, fun e => e.1⟩)
  | succ b ih =>
    intro i hi hb
    refine Tot.step0 (fun k p_ q_ => Br_l0_q (lv k) k s p_ i) ?_
    rw [Ed]
    refine Tot.cond (fun c => ?_) (fun c => ?_)
    · have c := of_decide_eq_true c
      have hw := Lib.decode_width_pos s i c
      rw [if_pos c]
      refine Tot.f (by rw [beq_eq_false_iff_ne]; omega) (Tot.bind (Sd _) fun r3 hr3 => Tot.cond (fun d => Tot.ret ⟨fun e => (by cases e), fun e => ?_⟩) (fun d => ?_))
      · rw [hr3.2 (e.2 _ (List.mem_cons_self ..))] at d; cases d
      · have d : r3 = true := by simpa using d
        refine (ih _ (by omega) (by omega)).mono fun r hr => hr.trans ⟨fun e => ⟨e.1, fun x hx => ?_⟩, fun e => ⟨e.1, fun x hx => e.2 x (List.mem_cons_of_mem _ hx)⟩⟩
        rcases List.mem_cons.1 hx with rfl | hx
        · exact hr3.1 d
        · exact e.2 x hx
    · rw [if_neg (of_decide_eq_false c)]
      exact fin.mono fun r hr => hr.trans ⟨fun e => ⟨e, fun x hx => (by cases hx)⟩, fun e => e.1⟩
theorem Z9 : Tot (fun k _ _ => (lv k).Br s) (fun r => r = true ↔ K6 s) := by
  refine Br_up _ (Tot.congr ?_ (fun k _ _ => Br_q (lv k) k s))
  refine Tot.in0 (g := fun k m m' => Br_l0 (lv k) k s m 0) ?_
  refine Tot.step0 (fun k p_ q_ => Br_l0_q (lv k) k s p_ 0) ?_
  unfold K6
  refine Tot.cond (fun c => ?_) (fun c => ?_)
  · have c := of_decide_eq_true c
    have hw := Lib.decode_width_pos s 0 c
    obtain ⟨n, hn⟩ : ∃ n, s.size = n + 1 := ⟨s.size - 1, by omega⟩
    have er : Ed s s.size 0 = ((Utf8.decode s 0).1 : Int) :: Ed s n (0 + (Utf8.decode s 0).2) := by rw [hn, Ed, if_pos c]
    rw [er]
    refine Tot.t (by rfl) (Tot.bind (Se _) fun r1 hr1 => Tot.cond (fun d => Tot.ret ⟨fun e => (by cases e), fun e => ?_⟩) (fun d => Tot.bind (Sd _) fun r2 hr2 => Tot.cond (fun d2 => Tot.ret ⟨fun e => (by cases e), fun e => ?_⟩) (fun d2 => ?_)))
    · rw [hr1.2 e.2.1] at d; cases d
    · rw [hr2.2 (e.2.2 _ (List.mem_cons_self ..))] at d2; cases d2
    · have d : r1 = true := by simpa using d
      have d2 : r2 = true := by simpa using d2
      refine (Z8 s hz n _ (by omega) (by omega)).mono fun r hr => hr.trans ⟨fun e => ⟨e.1, hr1.1 d, fun x hx => ?_⟩, fun e => ⟨e.1, fun x hx => e.2.2 x (List.mem_cons_of_mem _ hx)⟩⟩
      rcases List.mem_cons.1 hx with rfl | hx
      · exact hr2.1 d2
      · exact e.2 x hx
  · have c := of_decide_eq_false c
    have e0 : s.size = 0 := by omega
    have es : s = ⟨#[]⟩ := Pr e0
    refine Tot.ret ⟨fun e => ?_, fun e => absurd e0 e.1⟩
    rw [es, Fm.2 rfl] at e
    cases e
theorem Abd : Tot (fun k _ _ => (lv k).Bm s) (fun r => r = true ↔ K6 s) := by
  have hl := Rc s
  have hrow : ∀ i, i < (En s).length → IntKind.i64.wrap (gi ((En s).getD i []) 0) = (Ed s s.size 0).getD i 0 := fun i hi => by
    have hi' : i < (Ed s s.size 0).length := by simpa [En] using hi
    have e : gi ((En s).getD i []) 0 = (Ed s s.size 0).getD i 0 := by
      unfold En
      rw [List.getD_eq_getElem?_getD, List.getElem?_map, List.getElem?_eq_getElem hi', List.getD_eq_getElem?_getD, List.getElem?_eq_getElem hi']
      rfl
    rw [e]
    have := U9 s _ _ _ (D1 (d := 0) hi')
    exact Ag (by omega) (by omega)
  have hlen : (En s).length = (Ed s s.size 0).length := by simp [En]
  have h0 : (En s).length = 0 ↔ s.size = 0 := by
    rw [hlen]
    constructor
    · intro h
      cases hs : s.size with
      | zero => rfl
      | succ n => rw [hs, Ed, if_pos (by omega)] at h; cases h
    · intro h; rw [h]; rfl
  unfold K6
  refine Bm_up _ (Tot.congr ?_ (fun k _ _ => Bm_q (lv k) k s))
  refine Tot.t (D2 (of_decide_eq_true (by kernel_rfl)) (by omega)) (Tot.cond (fun c => Tot.ret ⟨fun e => (by cases e), fun e => ?_⟩) (fun c => ?_))
  · exact absurd (h0.1 (by have := eq_of_beq c; omega)) e.1
  · have c : (En s).length ≠ 0 := by have := ne_of_beq_false c; omega
    refine Tot.t (decide_eq_true (by omega)) ?_
    rw [hrow 0 (by omega)]
    refine Tot.bind (Sw _) fun r1 hr1 => Tot.cond (fun d => Tot.ret ⟨fun e => (by cases e), fun e => ?_⟩) (fun d => ?_)
    · rw [hr1.2 e.2.1] at d; cases d
    · have d : r1 = true := by simpa using d
      refine Tot.in0 (Tot.loop (H := fun k x y v (_ : Unit) => Bm_l0 (lv k) k s x v) (n := (En s).length) (fun i _ => ∀ j, j < i → Ju ((Ed s s.size 0).getD j 0)) (by omega) (fun _ h => ?_) (fun i _ hi h next => ?_) _ 0 () rfl (by omega) (fun j hj => by omega))
      · refine Tot.step0 (fun k p_ q_ => Bm_l0_q (lv k) k s p_ _) ?_
        refine Tot.f (decide_eq_false (by omega)) (Tot.ret ⟨fun _ => ⟨fun e => c (h0.2 e), hr1.1 d, fun x hx => ?_⟩, fun _ => rfl⟩)
        obtain ⟨j, hj, rfl⟩ := List.getElem_of_mem hx
        have := h j (by omega)
        rwa [List.getD_eq_getElem?_getD, List.getElem?_eq_getElem hj] at this
      · refine Tot.step0 (fun k p_ q_ => Bm_l0_q (lv k) k s p_ _) ?_
        rw [Int.toNat_natCast, hrow i hi]
        repeat (refine Tot.t (decide_eq_true (by omega)) ?_)
        refine Tot.bind (Abc _) fun r2 hr2 => Tot.cond (fun d2 => Tot.ret ⟨fun e => (by cases e), fun e => ?_⟩) (fun d2 => next () (fun j hj => ?_))
        · rw [hr2.2 (e.2.2 _ (D1 (d := 0) (by omega)))] at d2; cases d2
        · rcases Nat.lt_or_ge j i with h2 | h2
          · exact h j h2
          · rw [show j = i by omega]; exact hr2.1 (by simpa using d2)
end
def T4 : ByteArray := ⟨#[104, 116, 116, 112, 58, 47, 47, 119, 119, 119, 46, 119, 51, 46, 111, 114, 103, 47, 50, 48, 48, 48, 47, 120, 109, 108, 110, 115, 47]⟩
def nmQ (s t : ByteArray) : Prop := K6 t ∧ okV t ∧ okV s ∧ s ≠ T4
theorem T3 (s : ByteArray) : (!(s.toList == (⟨#[104, 116, 116, 112, 58, 47, 47, 119, 119, 119, 46, 119, 51, 46, 111, 114, 103, 47, 50, 48, 48, 48, 47, 120, 109, 108, 110, 115, 47]⟩ : ByteArray).toList)) = true ↔ s ≠ T4 := by
  rw [Bool.not_eq_true', Bool.eq_false_iff, ne_eq, ne_eq, Fm]
  exact Iff.rfl
theorem T1 (s t : ByteArray) (hs : s.size ≤ 1048576) (ht : t.size ≤ 1048576) : Tot (fun k _ _ => (lv k).C6 s t) (fun r => r = true ↔ nmQ s t) := by
  have no : ¬ nmQ s t → Tot (fun _ _ _ => some false) (fun r => r = true ↔ nmQ s t) := fun h => Tot.ret ⟨fun e => (by cases e), fun e => absurd e h⟩
  refine C6_up _ _ (Tot.congr ?_ (fun k _ _ => C6_q (lv k) k s t))
  refine Tot.bind (Z9 t ht) fun r1 h1 => Tot.cond (fun c1 => Tot.bind (Mw t ht) fun r2 h2 => Tot.cond (fun c2 => Tot.bind (Mw s hs) fun r3 h3 => Tot.cond (fun c3 => Tot.ret ?_) (fun c3 => no fun h => ?_)) (fun c2 => no fun h => ?_)) (fun c1 => no fun h => ?_)
  · rw [T3]
    exact ⟨fun e => ⟨h1.1 c1, h2.1 c2, h3.1 c3, e⟩, fun e => e.2.2.2⟩
  · rw [h3.2 h.2.2.1] at c3; cases c3
  · rw [h2.2 h.2.1] at c2; cases c2
  · rw [h1.2 h.1] at c1; cases c1
theorem Su (s t : ByteArray) (hs : s.size ≤ 1048576) (ht : t.size ≤ 1048576) : Tot (fun k _ _ => (lv k).C5 s t) (fun r => r = true ↔ nmQ s t) := by
  have no : ¬ nmQ s t → Tot (fun _ _ _ => some false) (fun r => r = true ↔ nmQ s t) := fun h => Tot.ret ⟨fun e => (by cases e), fun e => absurd e h⟩
  refine C5_up _ _ (Tot.congr ?_ (fun k _ _ => C5_q (lv k) k s t))
  refine Tot.bind (Abd t ht) fun r1 h1 => Tot.cond (fun c1 => Tot.bind (Mg t ht) fun r2 h2 => Tot.cond (fun c2 => Tot.bind (Mg s hs) fun r3 h3 => Tot.cond (fun c3 => Tot.ret ?_) (fun c3 => no fun h => ?_)) (fun c2 => no fun h => ?_)) (fun c1 => no fun h => ?_)
  · rw [T3]
    exact ⟨fun e => ⟨h1.1 c1, h2.1 c2, h3.1 c3, e⟩, fun e => e.2.2.2⟩
  · rw [h3.2 h.2.2.1] at c3; cases c3
  · rw [h2.2 h.2.1] at c2; cases c2
  · rw [h1.2 h.1] at c1; cases c1
def Og (x y : List C) : Prop := gs x 0 = gs y 0 ∧ gs x 1 = gs y 1
def If (l : LL) (n : Nat) : Prop := ∀ i, i < n → nmQ (gs (l.getD i []) 0) (gs (l.getD i []) 1) ∧ okV (gs (l.getD i []) 2) ∧ ∀ k, k < i → ¬ Og (l.getD k []) (l.getD i [])
def Ig (l : LL) : Prop := If l l.length ∧ l.length ≤ 32
theorem Ph {l : LL} {n : Nat} : If l (n + 1) ↔ If l n ∧ nmQ (gs (l.getD n []) 0) (gs (l.getD n []) 1) ∧ okV (gs (l.getD n []) 2) ∧ ∀ k, k < n → ¬ Og (l.getD k []) (l.getD n []) := by
  constructor
  · intro h
    exact ⟨fun i hi => h i (by omega), h n (by omega)⟩
  · rintro ⟨h1, h2⟩ i hi
    rcases Nat.lt_or_ge i n with h | h
    · exact h1 i h
    · rw [show i = n by omega]; exact h2
def Oh (m : LL) (l : LL) (n : Nat) : Prop := ∀ s t : ByteArray, Gf m [s, t] = true ↔ ∃ k, k < n ∧ gs (l.getD k []) 0 = s ∧ gs (l.getD k []) 1 = t
theorem Abs {m l : LL} {n : Nat} (h : Oh m l n) : Oh ([C.str (gs (l.getD n []) 0), C.str (gs (l.getD n []) 1), C.bool true] :: m) l (n + 1) := fun s t => by
  have e := Km (rows := m) (kc := [s, t]) (kc' := [gs (l.getD n []) 0, gs (l.getD n []) 1]) (b := true) rfl
  rw [show ([C.str (gs (l.getD n []) 0), C.str (gs (l.getD n []) 1), C.bool true] : List C) = [gs (l.getD n []) 0, gs (l.getD n []) 1].map C.str ++ [.bool true] from rfl, e]
  by_cases hk : [gs (l.getD n []) 0, gs (l.getD n []) 1] = [s, t]
  · rw [if_pos hk]
    simp only [List.cons.injEq, and_true] at hk
    exact ⟨fun _ => ⟨n, by omega, hk.1, hk.2⟩, fun _ => rfl⟩
  · rw [if_neg hk, h s t]
    constructor
    · rintro ⟨k, hk, e⟩
      exact ⟨k, by omega, e⟩
    · rintro ⟨k, hk', e1, e2⟩
      rcases Nat.lt_or_ge k n with h2 | h2
      · exact ⟨k, h2, e1, e2⟩
      · exfalso
        apply hk
        rw [show n = k by omega, e1, e2]
theorem Ac2 (l : LL) (hl : SmL BB l) : Tot (fun k _ _ => (lv k).B5 l) (fun r => r = true ↔ Ig l) := by
  have hlen : l.length ≤ 1048576 := hl.1
  have no : ¬ Ig l → Tot (fun _ _ _ => some false) (fun r => r = true ↔ Ig l) := fun h => Tot.ret ⟨fun e => (by cases e), fun e => absurd e h⟩
  have part : ∀ i, i < l.length → Ig l → If l (i + 1) := fun i hi h j hj => h.1 j (by omega)
  refine B5_up _ (Tot.congr ?_ (fun k _ _ => B5_q (lv k) k l))
  refine Tot.in0 (Tot.loop (H := fun k p q v (m : LL) => B5_l0 (lv k) k l p v m) (n := l.length) (fun i m => If l i ∧ Oh m l i) (by omega) (fun m h => ?_) (fun i m hi h next => ?_) _ 0 _ rfl (by omega) ⟨fun i hi => by omega, fun s t => ⟨fun e => (by cases e), fun ⟨k, hk, _⟩ => by omega⟩⟩)
  · refine Tot.step0 (fun k p_ q_ => B5_l0_q (lv k) k l p_ _ m) ?_
    refine Tot.f (decide_eq_false (by omega)) (Tot.ret ?_)
    rw [decide_eq_true_eq]
    exact ⟨fun e => ⟨h.1, by omega⟩, fun e => by have := e.2; omega⟩
  · refine Tot.step0 (fun k p_ q_ => B5_l0_q (lv k) k l p_ _ m) ?_
    rw [Int.toNat_natCast]
    have g0 : (gs (l.getD i []) 0).size ≤ 1048576 := (hl.get i).gs 0
    have g1 : (gs (l.getD i []) 1).size ≤ 1048576 := (hl.get i).gs 1
    have g2 : (gs (l.getD i []) 2).size ≤ 1048576 := (hl.get i).gs 2
    repeat (refine Tot.t (decide_eq_true (by omega)) ?_)
    refine Tot.cond (fun c => no fun hq => ?_) (fun c => Tot.bind (T1 _ _ g0 g1) fun r1 h1 => Tot.cond (fun c1 => no fun hq => ?_) (fun c1 => Tot.bind (Mw _ g2) fun r2 h2 => Tot.cond (fun c2 => no fun hq => ?_) (fun c2 => ?_)))
    · obtain ⟨k, hk, e1, e2⟩ := (h.2 _ _).1 c
      exact (part i hi hq i (by omega)).2.2 k hk ⟨e1, e2⟩
    · rw [h1.2 (part i hi hq i (by omega)).1] at c1; cases c1
    · rw [h2.2 (part i hi hq i (by omega)).2.1] at c2; cases c2
    · repeat (refine Tot.t (decide_eq_true (by omega)) ?_)
      refine next _ ⟨Ph.2 ⟨h.1, h1.1 (by simpa using c1), h2.1 (by simpa using c2), fun k hk e => ?_⟩, Abs h.2⟩
      rw [(h.2 _ _).2 ⟨k, hk, e.1, e.2⟩] at c
      cases c
def evR (a : List C) : Prop := (gi a 0 = 1 ∧ gs a 4 = ⟨#[]⟩ ∧ nmQ (gs a 1) (gs a 2) ∧ Ig (gr a 3)) ∨ (gi a 0 = 2 ∧ gs a 4 ≠ ⟨#[]⟩ ∧ okV (gs a 4) ∧ (gs a 1 = ⟨#[]⟩ ∧ gs a 2 = ⟨#[]⟩) ∧ (gr a 3).length = 0) ∨ (gi a 0 = 3 ∧ gs a 4 = ⟨#[]⟩ ∧ (gs a 1 = ⟨#[]⟩ ∧ gs a 2 = ⟨#[]⟩) ∧ (gr a 3).length = 0)
theorem Adb (a : List C) (ha : SmR BB a) : Tot (fun k _ _ => (lv k).Dh (gi a 0) (gs a 1) (gs a 2) (gr a 3) (gs a 4)) (fun r => r = true ↔ evR a) := by
  have hemp : ((gs a 1 == (⟨#[]⟩ : ByteArray)) && ((gs a 2 == (⟨#[]⟩ : ByteArray)) && true)) = true ↔ gs a 1 = ⟨#[]⟩ ∧ gs a 2 = ⟨#[]⟩ := Fs
  have and : ∀ {g : Nat → Nat → Nat → Option Bool} {b : Bool} {p q : Prop}, (b = true ↔ p) → Tot g (fun r => r = true ↔ q) → Tot (fun n x y => cond b (g n x y) (some false)) (fun r => r = true ↔ p ∧ q) := fun hb h =>
    Tot.cond (fun c => h.mono fun r hr => hr.trans ⟨fun e => ⟨hb.1 c, e⟩, fun e => e.2⟩) (fun c => Tot.ret ⟨fun e => (by cases e), fun e => by rw [hb.2 e.1] at c; cases c⟩)
  have iff : ∀ {g : Nat → Nat → Nat → Option Bool} {p q : Prop}, (p ↔ q) → Tot g (fun r => r = true ↔ p) → Tot g (fun r => r = true ↔ q) := fun h t => t.mono fun r hr => hr.trans h
  have zero : Tot (fun _ _ _ => some (((gr a 3).length : Int) == (0 : Int))) (fun r => r = true ↔ (gr a 3).length = 0) := Tot.ret (by rw [beq_iff_eq]; omega)
  refine Dh_up _ _ _ _ _ (Tot.congr ?_ (fun k _ _ => Dh_q (lv k) k (gi a 0) (gs a 1) (gs a 2) (gr a 3) (gs a 4)))
  refine Tot.cond (fun c => ?_) (fun c => Tot.cond (fun c' => ?_) (fun c' => Tot.cond (fun c'' => ?_) (fun c'' => Tot.ret ⟨fun e => (by cases e), fun e => ?_⟩)))
  · have c := eq_of_beq c
    refine iff (p := gs a 4 = ⟨#[]⟩ ∧ nmQ (gs a 1) (gs a 2) ∧ Ig (gr a 3)) ⟨fun h => .inl ⟨c, h⟩, fun h => by
      rcases h with h | h | h
      · exact h.2
      · have := h.1; omega
      · have := h.1; omega⟩ (and Fm (Tot.bind (T1 _ _ (ha.gs 1) (ha.gs 2)) fun r hr => and hr (Tot.bind (Ac2 _ (ha.gr 3)) fun r2 hr2 => Tot.ret hr2)))
  · have c' := eq_of_beq c'
    refine iff (p := gs a 4 ≠ ⟨#[]⟩ ∧ okV (gs a 4) ∧ (gs a 1 = ⟨#[]⟩ ∧ gs a 2 = ⟨#[]⟩) ∧ (gr a 3).length = 0) ⟨fun h => .inr (.inl ⟨c', h⟩), fun h => by
      rcases h with h | h | h
      · have := h.1; omega
      · exact h.2
      · have := h.1; omega⟩ (and (by rw [Bool.not_eq_true', Bool.eq_false_iff, ne_eq, Fm]) (Tot.bind (Mw _ (ha.gs 4)) fun r hr => and hr (and hemp zero)))
  · have c'' := eq_of_beq c''
    refine iff (p := gs a 4 = ⟨#[]⟩ ∧ (gs a 1 = ⟨#[]⟩ ∧ gs a 2 = ⟨#[]⟩) ∧ (gr a 3).length = 0) ⟨fun h => .inr (.inr ⟨c'', h⟩), fun h => by
      rcases h with h | h | h
      · have := h.1; omega
      · have := h.1; omega
      · exact h.2⟩ (and Fm (and hemp zero))
  · have h1 := ne_of_beq_false c; have h2 := ne_of_beq_false c'; have h3 := ne_of_beq_false c''
    rcases e with h | h | h
    · exact (h1 h.1).elim
    · exact (h2 h.1).elim
    · exact (h3 h.1).elim
theorem Abe (a : List C) (ha : SmR BB a) : Tot (fun k _ _ => (lv k).A4 (gi a 0) (gs a 1) (gs a 2) (gr a 3) (gs a 4)) (fun r => r = true ↔ evR a) := by
  have hemp : ((gs a 1 == (⟨#[]⟩ : ByteArray)) && ((gs a 2 == (⟨#[]⟩ : ByteArray)) && true)) = true ↔ gs a 1 = ⟨#[]⟩ ∧ gs a 2 = ⟨#[]⟩ := Fs
  have hlen : (gr a 3).length ≤ 1048576 := (ha.gr 3).1
  have no : ¬ evR a → Tot (fun _ _ _ => some false) (fun r => r = true ↔ evR a) := fun h => Tot.ret ⟨fun e => (by cases e), fun e => absurd e h⟩
  have hop : evR a → gi a 0 = 1 → gs a 4 = ⟨#[]⟩ ∧ nmQ (gs a 1) (gs a 2) ∧ Ig (gr a 3) := fun h e => by
    rcases h with h | h | h
    · exact h.2
    · have := h.1; omega
    · have := h.1; omega
  have l1 : gi a 0 = 1 → gs a 4 = ⟨#[]⟩ → nmQ (gs a 1) (gs a 2) → (gr a 3).length ≤ 32 → Tot (fun k p q => A4_l1 (lv k) k (gi a 0) (gs a 1) (gs a 2) (gr a 3) (gs a 4) k 0) (fun r => r = true ↔ evR a) := fun e1 e2 e3 e4 => by
    refine Tot.in0 (Tot.loop (H := fun k p q v (_ : Unit) => A4_l1 (lv k) k (gi a 0) (gs a 1) (gs a 2) (gr a 3) (gs a 4) p v) (n := (gr a 3).length) (fun i _ => If (gr a 3) i) (by omega) (fun _ h => ?_) (fun i _ hi h next => ?_) _ 0 () rfl (by omega) (fun i hi => by omega))
    · refine Tot.step0 (fun k p_ q_ => A4_l1_q (lv k) k (gi a 0) (gs a 1) (gs a 2) (gr a 3) (gs a 4) p_ _) ?_
      exact Tot.f (decide_eq_false (by omega)) (Tot.ret ⟨fun _ => .inl ⟨e1, e2, e3, h, e4⟩, fun _ => rfl⟩)
    · have bad : ∀ {q : Prop}, (If (gr a 3) (i + 1) → q) → (evR a → q) := fun f hq => f fun j hj => (hop hq e1).2.2.1 j (by omega)
      refine Tot.step0 (fun k p_ q_ => A4_l1_q (lv k) k (gi a 0) (gs a 1) (gs a 2) (gr a 3) (gs a 4) p_ _) ?_
      rw [Int.toNat_natCast]
      repeat (refine Tot.t (decide_eq_true (by omega)) ?_)
      refine Tot.bind (Su _ _ (((ha.gr 3).get i).gs 0) (((ha.gr 3).get i).gs 1)) fun r1 h1 => Tot.cond (fun c1 => no (bad fun hq => ?_)) (fun c1 => ?_)
      · rw [h1.2 (hq i (by omega)).1] at c1; cases c1
      repeat (refine Tot.t (decide_eq_true (by omega)) ?_)
      refine Tot.bind (Mg _ (((ha.gr 3).get i).gs 2)) fun r2 h2 => Tot.cond (fun c2 => no (bad fun hq => ?_)) (fun c2 => ?_)
      · rw [h2.2 (hq i (by omega)).2.1] at c2; cases c2
      refine Tot.in1 (Tot.loop (H := fun k p q v (_ : Unit) => A4_l2 (lv k) k (gi a 0) (gs a 1) (gs a 2) (gr a 3) (gs a 4) p q (i : Int) v) (n := i) (fun k _ => ∀ j, j < k → ¬ Og ((gr a 3).getD j []) ((gr a 3).getD i [])) (by omega) (fun _ h3 => ?_) (fun j _ hj h3 next2 => ?_) _ 0 () rfl (by omega) (fun i hi => by omega))
      · refine Tot.step1 (fun k p_ q_ => A4_l2_q (lv k) k (gi a 0) (gs a 1) (gs a 2) (gr a 3) (gs a 4) p_ q_ (i : Int) _) ?_
        exact Tot.f (decide_eq_false (by omega)) (next () (Ph.2 ⟨h, h1.1 (by simpa using c1), h2.1 (by simpa using c2), h3⟩))
      · refine Tot.step1 (fun k p_ q_ => A4_l2_q (lv k) k (gi a 0) (gs a 1) (gs a 2) (gr a 3) (gs a 4) p_ q_ (i : Int) _) ?_
        rw [Int.toNat_natCast, Int.toNat_natCast]
        repeat (refine Tot.t (decide_eq_true (by omega)) ?_)
        refine Tot.cond (fun c3 => no (bad fun hq => (hq i (by omega)).2.2 j hj (Fs.1 c3))) (fun c3 => next2 () (fun k hk => ?_))
        rcases Nat.lt_or_ge k j with h4 | h4
        · exact h3 k h4
        · rw [show k = j by omega]
          exact fun e => by rw [Fs.2 e] at c3; cases c3
  have l0 : ∀ v : Bool, (v = true ↔ (gs a 1 = ⟨#[]⟩ ∧ gs a 2 = ⟨#[]⟩) ∧ (gr a 3).length = 0) → Tot (fun k p q => A4_l0 (lv k) k (gi a 0) (gs a 1) (gs a 2) (gr a 3) (gs a 4) v) (fun r => r = true ↔ evR a) := fun v hv => by
    refine Tot.congr ?_ (fun k p_ q_ => A4_l0_q (lv k) k (gi a 0) (gs a 1) (gs a 2) (gr a 3) (gs a 4) v )
    refine Tot.cond (fun c => ?_) (fun c => Tot.cond (fun c' => ?_) (fun c' => Tot.cond (fun c'' => no fun h => ?_) (fun c'' => ?_)))
    · have c := eq_of_beq c
      have h2 : evR a ↔ gs a 4 ≠ ⟨#[]⟩ ∧ okV (gs a 4) ∧ (gs a 1 = ⟨#[]⟩ ∧ gs a 2 = ⟨#[]⟩) ∧ (gr a 3).length = 0 := ⟨fun h => by
        rcases h with h | h | h
        · have := h.1; omega
        · exact h.2
        · have := h.1; omega, fun h => .inr (.inl ⟨c, h⟩)⟩
      refine Tot.cond (fun d => Tot.cond (fun d' => Tot.bind (Mg _ (ha.gs 4)) fun r hr => Tot.ret ?_) (fun d' => no fun h => ?_)) (fun d => no fun h => ?_)
      · have hne : gs a 4 ≠ ⟨#[]⟩ := fun e => by rw [e, Fm.2 rfl] at d'; cases d'
        rw [hr, h2]
        exact ⟨fun e => ⟨hne, e, hv.1 d⟩, fun e => e.2.1⟩
      · exact (h2.1 h).1 (Fm.1 (by simpa using d'))
      · rw [hv.2 (h2.1 h).2.2] at d; cases d
    · have c' := eq_of_beq c'
      have h3 : evR a ↔ gs a 4 = ⟨#[]⟩ ∧ (gs a 1 = ⟨#[]⟩ ∧ gs a 2 = ⟨#[]⟩) ∧ (gr a 3).length = 0 := ⟨fun h => by
        rcases h with h | h | h
        · have := h.1; omega
        · have := h.1; omega
        · exact h.2, fun h => .inr (.inr ⟨c', h⟩)⟩
      refine Tot.cond (fun d => Tot.ret ?_) (fun d => no fun h => ?_)
      · rw [Fm, h3]
        exact ⟨fun e => ⟨e, hv.1 d⟩, fun e => e.1⟩
      · rw [hv.2 (h3.1 h).2] at d; cases d
    · have h1 := ne_of_beq_false c; have h2 := ne_of_beq_false c'
      have h3 : gi a 0 ≠ 1 := by simpa using c''
      rcases h with h | h | h
      · exact h3 h.1
      · exact h1 h.1
      · exact h2 h.1
    · have e1 : gi a 0 = 1 := by simpa using c''
      refine Tot.cond (fun d => no fun h => ?_) (fun d => Tot.bind (Su _ _ (ha.gs 1) (ha.gs 2)) fun r hr => Tot.cond (fun d2 => no fun h => ?_) (fun d2 => Tot.cond (fun d3 => no fun h => ?_) (fun d3 => l1 e1 (Fm.1 (by simpa using d)) (hr.1 (by simpa using d2)) (by have := of_decide_eq_false d3; omega))))
      · rw [(hop h e1).1, Fm.2 rfl] at d; cases d
      · rw [hr.2 (hop h e1).2.1] at d2; cases d2
      · have := (hop h e1).2.2.2; have := of_decide_eq_true d3; omega
  refine A4_up _ _ _ _ _ (Tot.congr ?_ (fun k _ _ => A4_q (lv k) k (gi a 0) (gs a 1) (gs a 2) (gr a 3) (gs a 4)))
  refine Tot.cond (fun c => l0 _ ?_) (fun c => l0 _ ⟨fun e => (by cases e), fun e => by rw [hemp.2 e.1] at c; cases c⟩)
  rw [beq_iff_eq]
  exact ⟨fun e => ⟨hemp.1 c, by omega⟩, fun e => by have := e.2; omega⟩
def dp (l : LL) : Nat → Int
  | 0 => 0
  | n + 1 => if gi (l.getD n []) 0 = 1 then dp l n + 1 else if gi (l.getD n []) 0 = 3 then dp l n - 1 else dp l n
def stp (l : LL) (i : Nat) : Prop := evR (l.getD i []) ∧ (i = 0 → gi (l.getD i []) 0 = 1) ∧ (0 < i → dp l i ≠ 0) ∧ (0 < i → gi (l.getD i []) 0 = 2 → gi (l.getD (i - 1) []) 0 ≠ 2) ∧ dp l (i + 1) ≤ 64
def Ef (l : LL) (n : Nat) : Prop := ∀ i, i < n → stp l i
theorem G4 {l : LL} : ∀ {n : Nat}, Ef l n → 0 ≤ dp l n ∧ dp l n ≤ 64 := by
  intro n
  induction n with
  | zero => intro _; exact ⟨Int.le_refl _, by show (0 : Int) ≤ 64; omega⟩
  | succ n ih =>
    intro h
    have h1 := ih fun i hi => h i (by omega)
    obtain ⟨_, a, b, _, c⟩ := h n (by omega)
    refine ⟨?_, c⟩
    rcases Nat.eq_zero_or_pos n with e | e
    · have := a e
      rw [dp, if_pos this]; omega
    · have := b e
      rw [dp]
      split
      · omega
      · split <;> omega
theorem G5 {l : LL} {n : Nat} : dp l (n + 1) = (if gi (l.getD n []) 0 = 1 then dp l n + 1 else if gi (l.getD n []) 0 = 3 then dp l n - 1 else dp l n) := rfl
theorem M9 (l : LL) (hl : SmL BB l) : Tot (fun k _ _ => (lv k).A5 l) (fun r => r = true ↔ Ef l l.length) := by
  have hlen : l.length ≤ 1048576 := hl.1
  refine A5_up _ (Tot.congr ?_ (fun k _ _ => A5_q (lv k) k l))
  refine Tot.in0 (Tot.loop (H := fun k p q v (w : Int) => A5_l0 (lv k) k l p w v) (n := l.length) (fun i w => Ef l i ∧ w = dp l i) (by omega) (fun w h => ?_) (fun i w hi h next => ?_) _ 0 _ rfl (by omega) ⟨fun i hi => by omega, rfl⟩)
  · refine Tot.step0 (fun k p_ q_ => A5_l0_q (lv k) k l p_ w _) ?_
    exact Tot.f (decide_eq_false (by omega)) (Tot.ret ⟨fun _ => h.1, fun _ => rfl⟩)
  · have no : ¬ stp l i → Tot (fun _ _ _ => some false) (fun r => r = true ↔ Ef l l.length) := fun h => Tot.ret ⟨fun e => (by cases e), fun e => absurd (e i hi) h⟩
    obtain ⟨hb, hw⟩ := h
    have hr := G4 hb
    have l1 : evR (l.getD i []) → (i = 0 → gi (l.getD i []) 0 = 1) → (0 < i → dp l i ≠ 0) → (0 < i → gi (l.getD i []) 0 = 2 → gi (l.getD (i - 1) []) 0 ≠ 2) → Tot (fun k p q => A5_l1 (lv k) k l p w (i : Int) (gi (l.getD i []) 0)) (fun r => r = true ↔ Ef l l.length) := fun a b c d => by
      have fin : ∀ w', w' = dp l (i + 1) → dp l (i + 1) ≤ 64 → Tot (fun k p q => A5_l0 (lv k) k l p w' (IntKind.i64.wrap ((i : Int) + 1))) (fun r => r = true ↔ Ef l l.length) := fun w' e h64 => next w' ⟨fun j hj => by
        rcases Nat.lt_or_ge j i with h2 | h2
        · exact hb j h2
        · rw [show j = i by omega]; exact ⟨a, b, c, d, h64⟩, e⟩
      refine Tot.congr ?_ (fun k p_ q_ => A5_l1_q (lv k) k l p_ w (i : Int) (gi (l.getD i []) 0))
      rw [Ag (x := w + 1) (by omega) (by omega), Ag (x := w - 1) (by omega) (by omega)]
      have hd := G5 (l := l) (n := i)
      refine Tot.cond (fun e => ?_) (fun e => Tot.cond (fun e' => ?_) (fun e' => ?_))
      · rw [if_pos (eq_of_beq e)] at hd
        exact Tot.cond (fun g => no fun hs => by have := hs.2.2.2.2; have := of_decide_eq_true g; omega) (fun g => fin _ (by omega) (by have := of_decide_eq_false g; omega))
      · rw [if_neg (ne_of_beq_false e), if_pos (eq_of_beq e')] at hd
        exact Tot.cond (fun g => no fun hs => by have := hs.2.2.2.2; have := of_decide_eq_true g; omega) (fun g => fin _ (by omega) (by have := of_decide_eq_false g; omega))
      · rw [if_neg (ne_of_beq_false e), if_neg (ne_of_beq_false e')] at hd
        exact Tot.cond (fun g => no fun hs => by have := hs.2.2.2.2; have := of_decide_eq_true g; omega) (fun g => fin _ (by omega) (by have := of_decide_eq_false g; omega))
    refine Tot.step0 (fun k p_ q_ => A5_l0_q (lv k) k l p_ w (i : Int)) ?_
    rw [Int.toNat_natCast]
    repeat (refine Tot.t (decide_eq_true (by omega)) ?_)
    refine Tot.bind (Adb _ (hl.get i)) fun r1 h1 => Tot.cond (fun c1 => no fun hs => by rw [h1.2 hs.1] at c1; cases c1) (fun c1 => ?_)
    have ev := h1.1 (by simpa using c1)
    rcases Nat.eq_zero_or_pos i with e0 | e0
    · subst e0
      refine Tot.t (by rfl) (Tot.cond (fun c2 => no fun hs => by rw [hs.2.1 rfl] at c2; cases c2) (fun c2 => Tot.f (by rfl) ?_))
      have k1 : gi (l.getD 0 []) 0 = 1 := by simpa using c2
      exact Tot.f (by rw [k1]; rfl) (l1 ev (fun _ => k1) (fun h => by omega) (fun h => by omega))
    · have hne : ((i : Int) == (0 : Int)) = false := by rw [beq_eq_false_iff_ne]; omega
      rw [Ag (x := (i : Int) - 1) (by omega) (by omega), show ((i : Int) - 1).toNat = i - 1 by omega]
      refine Tot.f hne (Tot.t (decide_eq_true (by omega)) (Tot.cond (fun c2 => no fun hs => by have := hs.2.2.1 e0; have := eq_of_beq c2; omega) (fun c2 => ?_)))
      have d0 : dp l i ≠ 0 := by have := ne_of_beq_false c2; omega
      refine Tot.cond (fun c3 => ?_) (fun c3 => l1 ev (fun h => by omega) (fun _ => d0) (fun _ h => absurd h (ne_of_beq_false c3)))
      repeat (refine Tot.t (decide_eq_true (by omega)) ?_)
      refine Tot.cond (fun c4 => no fun hs => hs.2.2.2.1 e0 (eq_of_beq c3) (eq_of_beq c4)) (fun c4 => l1 ev (fun h => by omega) (fun _ => d0) (fun _ _ => ne_of_beq_false c4))
def G3 (l : LL) : Prop := 0 < l.length ∧ Ef l l.length ∧ dp l l.length = 0
theorem Ac3 (l : LL) (hl : SmL BB l) (hb : Ef l l.length) : Tot (fun k _ _ => (lv k).Bv l) (fun r => r = dp l l.length) := by
  have hlen : l.length ≤ 1048576 := hl.1
  refine Bv_up _ (Tot.congr ?_ (fun k _ _ => Bv_q (lv k) k l))
  refine Tot.bind (M9 l hl) fun r hr => Tot.f (by rw [hr.2 hb]; rfl) ?_
  refine Tot.in0 (Tot.loop (H := fun k p q v (w : Int) => Bv_l0 (lv k) k l p w v) (n := l.length) (fun i w => w = dp l i) (by omega) (fun w h => ?_) (fun i w hi h next => ?_) _ 0 _ rfl (by omega) rfl)
  · refine Tot.step0 (fun k p_ q_ => Bv_l0_q (lv k) k l p_ w _) ?_
    exact Tot.f (decide_eq_false (by omega)) (Tot.ret h)
  · refine Tot.step0 (fun k p_ q_ => Bv_l0_q (lv k) k l p_ w _) ?_
    rw [Int.toNat_natCast]
    have hr := G4 (l := l) (n := i) fun j hj => hb j (by omega)
    have hd := G5 (l := l) (n := i)
    rw [Ag (x := w + 1) (by omega) (by omega), Ag (x := w - 1) (by omega) (by omega)]
    repeat (refine Tot.t (decide_eq_true (by omega)) ?_)
    refine Tot.cond (fun e => ?_) (fun e => Tot.cond (fun e' => ?_) (fun e' => ?_))
    · rw [if_pos (eq_of_beq e)] at hd
      exact next _ (by omega)
    · rw [if_neg (ne_of_beq_false e), if_pos (eq_of_beq e')] at hd
      exact next _ (by omega)
    · rw [if_neg (ne_of_beq_false e), if_neg (ne_of_beq_false e')] at hd
      exact next _ (by omega)
theorem T2 (l : LL) (hl : SmL BB l) : Tot (fun k _ _ => (lv k).Di l) (fun r => r = true ↔ G3 l) := by
  refine Di_up _ (Tot.congr ?_ (fun k _ _ => Di_q (lv k) k l))
  refine Tot.cond (fun c => Tot.bind (M9 l hl) fun r hr => Tot.cond (fun d => ?_) (fun d => Tot.ret ⟨fun e => (by cases e), fun e => by rw [hr.2 e.2.1] at d; cases d⟩)) (fun c => Tot.ret ⟨fun e => (by cases e), fun e => by have := e.1; have := of_decide_eq_false c; omega⟩)
  have c := of_decide_eq_true c
  have hb := hr.1 d
  refine Tot.bind (Ac3 l hl hb) fun r2 h2 => Tot.ret ?_
  rw [beq_iff_eq, h2]
  exact ⟨fun e => ⟨by omega, hb, e⟩, fun e => e.2.2⟩
theorem Wa (l : LL) (hl : SmL BB l) : Tot (fun k _ _ => (lv k).Az l) (fun r => (Ef l l.length → r = dp l l.length) ∧ (¬ Ef l l.length → r = -1)) := by
  have hlen : l.length ≤ 1048576 := hl.1
  refine Az_up _ (Tot.congr ?_ (fun k _ _ => Az_q (lv k) k l))
  refine Tot.in0 (Tot.loop (H := fun k p q v (w : Int) => Az_l0 (lv k) k l p w v) (n := l.length) (fun i w => Ef l i ∧ w = dp l i) (by omega) (fun w h => ?_) (fun i w hi h next => ?_) _ 0 _ rfl (by omega) ⟨fun i hi => by omega, rfl⟩)
  · refine Tot.step0 (fun k p_ q_ => Az_l0_q (lv k) k l p_ w _) ?_
    exact Tot.f (decide_eq_false (by omega)) (Tot.ret ⟨fun _ => h.2, fun e => absurd h.1 e⟩)
  · have no : ¬ stp l i → Tot (fun _ _ _ => some (-1 : Int)) (fun r => (Ef l l.length → r = dp l l.length) ∧ (¬ Ef l l.length → r = -1)) := fun h => Tot.ret ⟨fun e => absurd (e i hi) h, fun _ => rfl⟩
    obtain ⟨hb, hw⟩ := h
    have hr := G4 hb
    have hd := G5 (l := l) (n := i)
    have l2 : evR (l.getD i []) → (i = 0 → gi (l.getD i []) 0 = 1) → (0 < i → dp l i ≠ 0) → (0 < i → gi (l.getD i []) 0 = 2 → gi (l.getD (i - 1) []) 0 ≠ 2) → Tot (fun k p q => Az_l2 (lv k) k l p w (i : Int)) (fun r => (Ef l l.length → r = dp l l.length) ∧ (¬ Ef l l.length → r = -1)) := fun a b c d => by
      have fin : ∀ w', w' = dp l (i + 1) → dp l (i + 1) ≤ 64 → Tot (fun k p q => Az_l0 (lv k) k l p w' (IntKind.i64.wrap ((i : Int) + 1))) (fun r => (Ef l l.length → r = dp l l.length) ∧ (¬ Ef l l.length → r = -1)) := fun w' e h64 => next w' ⟨fun j hj => by
        rcases Nat.lt_or_ge j i with h2 | h2
        · exact hb j h2
        · rw [show j = i by omega]; exact ⟨a, b, c, d, h64⟩, e⟩
      refine Tot.congr ?_ (fun k p_ q_ => Az_l2_q (lv k) k l p_ w (i : Int))
      rw [Int.toNat_natCast, Ag (x := w + 1) (by omega) (by omega), Ag (x := w - 1) (by omega) (by omega), Ag (x := w + 1 - 1) (by omega) (by omega)]
      repeat (refine Tot.t (decide_eq_true (by omega)) ?_)
      refine Tot.cond (fun e => ?_) (fun e => ?_)
      · repeat (refine Tot.t (decide_eq_true (by omega)) ?_)
        rw [if_pos (eq_of_beq e)] at hd
        refine Tot.f (by rw [eq_of_beq e]; rfl) ?_
        exact Tot.cond (fun g => no fun hs => by have := hs.2.2.2.2; have := of_decide_eq_true g; omega) (fun g => fin _ (by omega) (by have := of_decide_eq_false g; omega))
      · repeat (refine Tot.t (decide_eq_true (by omega)) ?_)
        refine Tot.cond (fun e' => ?_) (fun e' => ?_)
        · rw [if_neg (ne_of_beq_false e), if_pos (eq_of_beq e')] at hd
          exact Tot.cond (fun g => no fun hs => by have := hs.2.2.2.2; have := of_decide_eq_true g; omega) (fun g => fin _ (by omega) (by have := of_decide_eq_false g; omega))
        · rw [if_neg (ne_of_beq_false e), if_neg (ne_of_beq_false e')] at hd
          exact Tot.cond (fun g => no fun hs => by have := hs.2.2.2.2; have := of_decide_eq_true g; omega) (fun g => fin _ (by omega) (by have := of_decide_eq_false g; omega))
    have l1 : evR (l.getD i []) → (i = 0 → gi (l.getD i []) 0 = 1) → (0 < i → dp l i ≠ 0) → Tot (fun k p q => Az_l1 (lv k) k l p w (i : Int)) (fun r => (Ef l l.length → r = dp l l.length) ∧ (¬ Ef l l.length → r = -1)) := fun a b c => by
      refine Tot.congr ?_ (fun k p_ q_ => Az_l1_q (lv k) k l p_ w (i : Int))
      rw [Int.toNat_natCast]
      repeat (refine Tot.t (decide_eq_true (by omega)) ?_)
      refine Tot.cond (fun e => ?_) (fun e => l2 a b c fun _ h => absurd h (ne_of_beq_false e))
      have e := eq_of_beq e
      have e0 : 0 < i := by
        rcases Nat.eq_zero_or_pos i with h | h
        · have := b h; omega
        · exact h
      rw [Ag (x := (i : Int) - 1) (by omega) (by omega), show ((i : Int) - 1).toNat = i - 1 by omega]
      repeat (refine Tot.t (decide_eq_true (by omega)) ?_)
      exact Tot.cond (fun g => no fun hs => hs.2.2.2.1 e0 e (eq_of_beq g)) (fun g => l2 a b c fun _ _ => ne_of_beq_false g)
    refine Tot.step0 (fun k p_ q_ => Az_l0_q (lv k) k l p_ w (i : Int)) ?_
    rw [Int.toNat_natCast]
    repeat (refine Tot.t (decide_eq_true (by omega)) ?_)
    refine Tot.bind (Abe _ (hl.get i)) fun r1 h1 => Tot.cond (fun c1 => no fun hs => by rw [h1.2 hs.1] at c1; cases c1) (fun c1 => ?_)
    have ev := h1.1 (by simpa using c1)
    have hz : ∀ {b : Bool}, (!((w == (0 : Int)) == ((i : Int) == (0 : Int)))) = b → (b = false ↔ (dp l i = 0 ↔ i = 0)) := fun {b} h => by
      subst h
      rw [Bool.not_eq_false', beq_iff_eq, Bool.eq_iff_iff, beq_iff_eq, beq_iff_eq]
      omega
    refine Tot.cond (fun c2 => no fun hs => ?_) (fun c2 => ?_)
    · have := (hz c2).2 (by
        rcases Nat.eq_zero_or_pos i with h | h
        · subst h; exact ⟨fun _ => rfl, fun _ => rfl⟩
        · have := hs.2.2.1 h; omega)
      cases this
    · have h2 := (hz c2).1 rfl
      refine Tot.cond (fun c3 => ?_) (fun c3 => l1 ev (fun h => absurd (by omega : (i : Int) = 0) (ne_of_beq_false c3)) (fun h => by omega))
      have e0 : i = 0 := by have := eq_of_beq c3; omega
      repeat (refine Tot.t (decide_eq_true (by omega)) ?_)
      refine Tot.cond (fun c4 => no fun hs => by rw [hs.2.1 e0] at c4; cases c4) (fun c4 => l1 ev (fun _ => by simpa using c4) (fun h => by omega))
theorem S8 (l : LL) (hl : SmL BB l) : Tot (fun k _ _ => (lv k).C9 l) (fun r => r = true ↔ G3 l) := by
  refine C9_up _ (Tot.congr ?_ (fun k _ _ => C9_q (lv k) k l))
  refine Tot.cond (fun c => Tot.bind (Wa l hl) fun r hr => Tot.ret ?_) (fun c => Tot.ret ⟨fun e => (by cases e), fun e => by have := e.1; have := of_decide_eq_false c; omega⟩)
  have c := of_decide_eq_true c
  rw [beq_iff_eq]
  by_cases hb : Ef l l.length
  · rw [hr.1 hb]
    exact ⟨fun e => ⟨by omega, hb, e⟩, fun e => e.2.2⟩
  · rw [hr.2 hb]
    exact ⟨fun e => by omega, fun e => absurd e.2.1 hb⟩
def Ch (l : LL) : Nat → Nat
  | 0 => 0
  | n + 1 => if gi (l.getD n []) 0 = 3 then Ch l n else Ch l n + 1
theorem Lu (l : LL) : ∀ n, Ch l n ≤ n := by
  intro n
  induction n with
  | zero => exact Nat.le_refl _
  | succ n ih => rw [Ch]; split <;> omega
theorem Yl (l : LL) (hl : SmL BB l) (hb : Ef l l.length) : Tot (fun k _ _ => (lv k).Bh l) (fun r => r.length = Ch l l.length) := by
  have hlen : l.length ≤ 1048576 := hl.1
  refine Bh_up _ (Tot.congr ?_ (fun k _ _ => Bh_q (lv k) k l))
  refine Tot.bind (M9 l hl) fun r hr => Tot.f (by rw [hr.2 hb]; rfl) ?_
  have l1 : ∀ (b i : Nat) (w : LL), l.length - i ≤ b → i ≤ l.length → w.length = Ch l i → Tot (fun k p q => Bh_l1 (lv k) k l p (i : Int) w) (fun r => r.length = Ch l l.length) := by
    intro b
    induction b with
    | zero =>
      intro i w h1 h2 h3
      refine Tot.step0 (fun k p_ q_ => Bh_l1_q (lv k) k l p_ (i : Int) w) ?_
      exact Tot.f (decide_eq_false (by omega)) (Tot.ret (by rw [h3, show i = l.length by omega]))
    | succ b ih =>
      intro i w h1 h2 h3
      have hc := Lu l i
      refine Tot.step0 (fun k p_ q_ => Bh_l1_q (lv k) k l p_ (i : Int) w) ?_
      rw [Int.toNat_natCast]
      refine Tot.cond (fun c => ?_) (fun c => Tot.ret (by rw [h3, show i = l.length by have := of_decide_eq_false c; omega]))
      have c := of_decide_eq_true c
      rw [Ag (x := (i : Int) + 1) (by omega) (by omega), show (i : Int) + 1 = ((i + 1 : Nat) : Int) by omega]
      repeat (refine Tot.t (decide_eq_true (by omega)) ?_)
      refine Tot.cond (fun d => ?_) (fun d => ih _ _ (by omega) (by omega) ?_)
      · have d : gi (l.getD i []) 0 ≠ 3 := by simpa using d
        refine Tot.t (D2 (of_decide_eq_true (by kernel_rfl)) (by omega)) (ih _ _ (by omega) (by omega) ?_)
        rw [List.length_append, Ch, if_neg d, h3]
        rfl
      · have d : gi (l.getD i []) 0 = 3 := by simpa using d
        rw [Ch, if_pos d, h3]
  have l0 : ∀ (b i : Nat), l.length - i ≤ b → i ≤ l.length → Ch l i = 0 → Tot (fun k p q => Bh_l0 (lv k) k l p (i : Int)) (fun r => r.length = Ch l l.length) := by
    intro b
    induction b with
    | zero =>
      intro i h1 h2 h3
      refine Tot.step0 (fun k p_ q_ => Bh_l0_q (lv k) k l p_ (i : Int)) ?_
      exact Tot.f (decide_eq_false (by omega)) (Tot.ret (by rw [← show i = l.length by omega, h3]; rfl))
    | succ b ih =>
      intro i h1 h2 h3
      refine Tot.step0 (fun k p_ q_ => Bh_l0_q (lv k) k l p_ (i : Int)) ?_
      rw [Int.toNat_natCast]
      refine Tot.cond (fun c => ?_) (fun c => Tot.ret (by rw [← show i = l.length by have := of_decide_eq_false c; omega, h3]; rfl))
      have c := of_decide_eq_true c
      rw [Ag (x := (i : Int) + 1) (by omega) (by omega), show (i : Int) + 1 = ((i + 1 : Nat) : Int) by omega]
      repeat (refine Tot.t (decide_eq_true (by omega)) ?_)
      refine Tot.cond (fun d => l1 _ _ _ (Nat.le_refl _) (by omega) ?_) (fun d => ih _ (by omega) (by omega) ?_)
      · have d : gi (l.getD i []) 0 ≠ 3 := by simpa using d
        rw [Ch, if_neg d, h3]
        rfl
      · have d : gi (l.getD i []) 0 = 3 := by simpa using d
        rw [Ch, if_pos d, h3]
  exact Tot.in0 (l0 l.length 0 (by omega) (by omega) rfl)
def Ea (l : LL) (at_ : Nat) : Nat → Nat → Nat
  | 0, _ => l.length
  | b + 1, i => if i < l.length then (if dp l (i + 1) = dp l at_ then i + 1 else Ea l at_ b (i + 1)) else l.length
theorem P6 (l : LL) : ∀ n : Nat, -(n : Int) ≤ dp l n ∧ dp l n ≤ n := by
  intro n
  induction n with
  | zero => exact ⟨by show -(0 : Int) ≤ 0; omega, by show (0 : Int) ≤ 0; omega⟩
  | succ n ih =>
    rw [dp]
    split
    · omega
    · split <;> omega
theorem Qa (l : LL) (hl : SmL BB l) (a : Nat) (ha : a ≤ l.length) : Tot (fun k _ _ => (lv k).Bp l (a : Int)) (fun r => r = (Ea l a l.length a : Int)) := by
  have hlen : l.length ≤ 1048576 := hl.1
  refine Bp_up _ _ (Tot.congr ?_ (fun k _ _ => Bp_q (lv k) k l (a : Int)))
  have loop : ∀ (b i : Nat), l.length - i ≤ b → i ≤ l.length → a ≤ i → Tot (fun k p q => Bp_l0 (lv k) k l (a : Int) p (dp l i - dp l a) (i : Int)) (fun r => r = (Ea l a b i : Int)) := by
    intro b
    induction b with
    | zero =>
      intro i h1 h2 h3
      refine Tot.step0 (fun k p_ q_ => Bp_l0_q (lv k) k l (a : Int) p_ (dp l i - dp l a) (i : Int)) ?_
      exact Tot.f (decide_eq_false (by omega)) (Tot.ret rfl)
    | succ b ih =>
      intro i h1 h2 h3
      have b1 := P6 l i
      have b2 := P6 l a
      have hd := G5 (l := l) (n := i)
      rw [Ea]
      refine Tot.step0 (fun k p_ q_ => Bp_l0_q (lv k) k l (a : Int) p_ (dp l i - dp l a) (i : Int)) ?_
      rw [Int.toNat_natCast, Ag (x := (i : Int) + 1) (by omega) (by omega), Ag (x := dp l i - dp l a + 1) (by omega) (by omega), Ag (x := dp l i - dp l a - 1) (by omega) (by omega), Ag (x := dp l i - dp l a + 1 - 1) (by omega) (by omega), show (i : Int) + 1 = ((i + 1 : Nat) : Int) by omega]
      refine Tot.cond (fun c => ?_) (fun c => Tot.ret (by rw [if_neg (by have := of_decide_eq_false c; omega)]))
      have c := of_decide_eq_true c
      rw [if_pos (by omega)]
      have fin : ∀ x : Int, x = dp l (i + 1) - dp l a → Tot (fun k p q => cond (x == (0 : Int)) (some (((i + 1 : Nat) : Int))) (Bp_l0 (lv k) k l (a : Int) p x ((i + 1 : Nat) : Int))) (fun r => r = ((if dp l (i + 1) = dp l a then i + 1 else Ea l a b (i + 1) : Nat) : Int)) := fun x hx => by
        subst hx
        refine Tot.cond (fun e => Tot.ret ?_) (fun e => ?_)
        · rw [if_pos (by have := eq_of_beq e; omega)]
        · rw [if_neg (by have := ne_of_beq_false e; omega)]
          exact ih (i + 1) (by omega) (by omega) (by omega)
      repeat (refine Tot.t (decide_eq_true (by omega)) ?_)
      refine Tot.cond (fun e => ?_) (fun e => ?_)
      · rw [if_pos (eq_of_beq e)] at hd
        repeat (refine Tot.t (decide_eq_true (by omega)) ?_)
        exact Tot.f (by rw [eq_of_beq e]; rfl) (fin _ (by omega))
      · repeat (refine Tot.t (decide_eq_true (by omega)) ?_)
        refine Tot.cond (fun e' => ?_) (fun e' => ?_)
        · rw [if_neg (ne_of_beq_false e), if_pos (eq_of_beq e')] at hd
          exact fin _ (by omega)
        · rw [if_neg (ne_of_beq_false e), if_neg (ne_of_beq_false e')] at hd
          exact fin _ (by omega)
  have h0 := loop l.length a (by omega) ha (Nat.le_refl _)
  rw [show dp l a - dp l a = 0 by omega] at h0
  exact Tot.in0 h0
end Go.Vm.T
