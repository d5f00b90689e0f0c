/- The plain law. -/
import Derived.Test.YtkdlhnmidbnpkaaVmEq
import Derived.Test.YtkdlhnmidbnpkaaVmPure
import Derived.Test.YtkdlhnmidbnpkaaVmTbb
set_option linter.unusedVariables false
set_option linter.unusedSimpArgs false
namespace Go.Vm.T
open Go Go.Vm Go.Proofs
attribute [local irreducible] lv Bn_b Bn_l0 Dn_b Bj_b Bj_l0 Bj_l1 Cs_b Ah_b Ah_l0 Ah_l1 Ah_l2 Ah_l3 Ah_l4 Ah_l5 Ah_l6 Cc_b Ar_b Ar_l0 Ar_l1 Ar_l2 Ar_l3 Bc_b Bc_l0 Bc_l1 Bs_b Bs_l0 Ba_b Ba_l0 Ba_l1 Bf_b Bf_l0 Bf_l1 Bu_b Bu_l0 B4_b B4_l0 Ap_b Ap_l0 Ap_l1 Ap_l2 Ap_l3 Bk_b Bk_l0 Bk_l1 Cy_b Bz_b Bz_l0 Cm_b Cn_b Co_b B6_b B6_l0 B7_b B7_l0 B8_b B8_l0 Dm_b Cz_b De_b B0_b B0_l0 Dd_b B9_b B9_l0 Dl_b Cx_b Bx_b Bx_l0 Au_b Au_l0 Au_l1 Au_l2 Au_l3 C4_b Bw_b Bw_l0 Di_b C3_b Dc_b A5_b A5_l0 A5_l1 Dh_b C6_b Cv_b Br_b Br_l0 Bl_b Bl_l0 Bl_l1 C1_b Ao_b Ao_l0 Ao_l1 Ao_l2 Ao_l3 Bq_b Bq_l0 Df_b Bh_b Bh_l0 Bh_l1 Bv_b Bv_l0 Bd_b Bd_l0 Bd_l1 Dg_b C8_b C7_b Cw_b Cw_l0 Cw_l1 Cw_l2 B5_b B5_l0 C0_b Da_b Dk_b Bb_b Bb_l0 Bb_l1 Bg_b Bg_l0 Bg_l1 A8_b A8_l0 A8_l1 Aj_b Aj_l0 Aj_l1 Aj_l2 Aj_l3 Aj_l4 Db_b A9_b A9_l0 Bm_b Bm_l0 A6_b A6_l0 A6_l1 Cj_b A7_b A7_l0 Cb_b Ae_b Ae_l0 Ae_l1 Ae_l2 Ae_l3 Ae_l4 An_b An_l0 An_l1 Be_b Be_l0 Be_l1 Cq_b Cr_b Bi_b Bi_l0 Cp_b C9_b By_b By_l0 Az_b Az_l0 Az_l1 Az_l2 A4_b A4_l0 A4_l1 A4_l2 C5_b Ct_b Bp_b Bp_l0 Ad_b Ad_l0 Ad_l1 Ad_l2 Ad_l3 Ad_l4 Ad_l5 Ad_l6 Ad_l7 Ad_l8 B3_b B3_l0 A0_b A0_l0 A0_l1 Ax_b Ax_l0 Ax_l1 Ax_l2 Cf_b
theorem Jh {a b : Nat} (h : (!((a : Int) == (b : Int))) = false) : a = b := by
  have : ((a : Int)) = b := by simpa using h
  omega
theorem lent {a b : Nat} (h : (!((a : Int) == (b : Int))) = true) : a ≠ b := by
  intro e
  subst e
  simp at h
abbrev AlQ (k : Bool) (a b : List C) : Bool → Prop := fun r => r = true ↔ Ck k a b
theorem Lj {k : Bool} {a b : List C} (h : ¬ Ck k a b) : AlQ k a b false := ⟨fun e => (by cases e), fun e => absurd e h⟩
theorem Abg : ∀ M : Nat,
    (∀ (a b : List C), SizeOf.sizeOf a < M → SmR BB a → SmR BB b → Tot (fun k _ _ => (lv k).Ba (gi a 0) (gr a 1) (gr a 2) (gi b 0) (gr b 1) (gr b 2)) (AlQ true a b)) ∧
    (∀ (a b : List C), SizeOf.sizeOf a < M → SmR BB a → SmR BB b → Tot (fun k _ _ => (lv k).Bf (gi a 0) (gs a 1) (gs a 2) (gs a 3) (gr a 4) (gr a 5) (gi b 0) (gs b 1) (gs b 2) (gs b 3) (gr b 4) (gr b 5)) (AlQ false a b)) := by
  intro M
  induction M with
  | zero => exact ⟨fun _ _ h => by omega, fun _ _ h => by omega⟩
  | succ M ih =>
    constructor
    · intro a b hM ha hb
      have hl1 : (gr a 1).length ≤ 1048576 := (ha.gr 1).1
      have hl2 : (gr a 2).length ≤ 1048576 := (ha.gr 2).1
      have no : ¬ Ck true a b → Tot (fun _ _ _ => some false) (AlQ true a b) := fun h => Tot.ret (Lj h)
      refine Ba_up _ _ _ _ _ _ (Tot.congr ?_ (fun k _ _ => Ba_q (lv k) k (gi a 0) (gr a 1) (gr a 2) (gi b 0) (gr b 1) (gr b 2)))
      refine Tot.cond (fun h0 => no fun h => ?_) (fun h0 => Tot.cond (fun h1 => no fun h => ?_) (fun h1 => Tot.cond (fun h2 => no fun h => ?_) (fun h2 => ?_)))
      · cases h with
        | path e _ _ _ _ => rw [e] at h0; simp at h0
      · cases h with
        | path _ e _ _ _ => exact lent h1 e
      · cases h with
        | path _ _ e _ _ => exact lent h2 e
      have h0 : gi a 0 = gi b 0 := by simpa using h0
      have h1 := Jh h1
      have h2 := Jh h2
      refine Tot.in0 (Tot.every (H := fun k x y v => Ba_l0 (lv k) k (gi a 0) (gr a 1) (gr a 2) (gi b 0) (gr b 1) (gr b 2) x v) (n := (gr a 1).length) (p := fun i => Ck true ((gr a 1).getD i []) ((gr b 1).getD i [])) (by omega) (fun h j hj => by cases h with | path _ _ _ e _ => exact e j hj) (fun hs => ?_) (fun i Q hi hf ht => ?_))
      · refine Tot.step0 (fun k p_ q_ => Ba_l0_q (lv k) k (gi a 0) (gr a 1) (gr a 2) (gi b 0) (gr b 1) (gr b 2) p_ _) ?_
        refine Tot.f (decide_eq_false (by omega)) ?_
        refine Tot.in0 (Tot.every (H := fun k x y v => Ba_l1 (lv k) k (gi a 0) (gr a 1) (gr a 2) (gi b 0) (gr b 1) (gr b 2) x v) (n := (gr a 2).length) (p := fun i => Ck false ((gr a 2).getD i []) ((gr b 2).getD i [])) (by omega) (fun h j hj => by cases h with | path _ _ _ _ e => exact e j hj) (fun ht => ?_) (fun i Q hi hf ht => ?_))
        · refine Tot.step0 (fun k p_ q_ => Ba_l1_q (lv k) k (gi a 0) (gr a 1) (gr a 2) (gi b 0) (gr b 1) (gr b 2) p_ _) ?_
          exact Tot.f (decide_eq_false (by omega)) (Tot.ret ⟨fun _ => .path h0 h1 h2 hs ht, fun _ => rfl⟩)
        · refine Tot.step0 (fun k p_ q_ => Ba_l1_q (lv k) k (gi a 0) (gr a 1) (gr a 2) (gi b 0) (gr b 1) (gr b 2) p_ _) ?_
          rw [Int.toNat_natCast]
          repeat (refine Tot.t (decide_eq_true (by omega)) ?_)
          exact Tot.bind (ih.2 _ _ (Gu hM hi) ((ha.gr 2).get i) ((hb.gr 2).get i)) fun r hr => Tot.cond (fun hn => Tot.ret (hf fun h => by rw [hr.2 h] at hn; cases hn)) (fun hn => ht (hr.1 (by simpa using hn)))
      · refine Tot.step0 (fun k p_ q_ => Ba_l0_q (lv k) k (gi a 0) (gr a 1) (gr a 2) (gi b 0) (gr b 1) (gr b 2) p_ _) ?_
        rw [Int.toNat_natCast]
        repeat (refine Tot.t (decide_eq_true (by omega)) ?_)
        exact Tot.bind (ih.1 _ _ (Gu hM hi) ((ha.gr 1).get i) ((hb.gr 1).get i)) fun r hr => Tot.cond (fun hn => Tot.ret (hf fun h => by rw [hr.2 h] at hn; cases hn)) (fun hn => ht (hr.1 (by simpa using hn)))
    · intro a b hM ha hb
      have hl1 : (gr a 4).length ≤ 1048576 := (ha.gr 4).1
      have hl2 : (gr a 5).length ≤ 1048576 := (ha.gr 5).1
      have no : ¬ Ck false a b → Tot (fun _ _ _ => some false) (AlQ false a b) := fun h => Tot.ret (Lj h)
      refine Bf_up _ _ _ _ _ _ _ _ _ _ _ _ (Tot.congr ?_ (fun k _ _ => Bf_q (lv k) k (gi a 0) (gs a 1) (gs a 2) (gs a 3) (gr a 4) (gr a 5) (gi b 0) (gs b 1) (gs b 2) (gs b 3) (gr b 4) (gr b 5)))
      refine Tot.cond (fun h0 => no fun h => ?_) (fun h0 => Tot.cond (fun h1 => no fun h => ?_) (fun h1 => Tot.cond (fun h2 => no fun h => ?_) (fun h2 => Tot.cond (fun h3 => no fun h => ?_) (fun h3 => Tot.cond (fun h4 => no fun h => ?_) (fun h4 => ?_)))))
      · cases h with
        | filter e _ _ _ _ _ _ _ => rw [e] at h0; simp at h0
      · cases h with
        | filter _ e f _ _ _ _ _ => rw [Fs.2 ⟨e, f⟩] at h1; cases h1
      · cases h with
        | filter _ _ _ e _ _ _ _ => rw [Fm.2 e] at h2; cases h2
      · cases h with
        | filter _ _ _ _ e _ _ _ => exact lent h3 e
      · cases h with
        | filter _ _ _ _ _ e _ _ => exact lent h4 e
      have h0 : gi a 0 = gi b 0 := by simpa using h0
      obtain ⟨h1, h1'⟩ := Fs.1 (show _ = true by simpa using h1)
      have h2 := Fm.1 (show _ = true by simpa using h2)
      have h3 := Jh h3
      have h4 := Jh h4
      refine Tot.in0 (Tot.every (H := fun k x y v => Bf_l0 (lv k) k (gi a 0) (gs a 1) (gs a 2) (gs a 3) (gr a 4) (gr a 5) (gi b 0) (gs b 1) (gs b 2) (gs b 3) (gr b 4) (gr b 5) x v) (n := (gr a 4).length) (p := fun i => Ck false ((gr a 4).getD i []) ((gr b 4).getD i [])) (by omega) (fun h j hj => by cases h with | filter _ _ _ _ _ _ e _ => exact e j hj) (fun hs => ?_) (fun i Q hi hf ht => ?_))
      · refine Tot.step0 (fun k p_ q_ => Bf_l0_q (lv k) k (gi a 0) (gs a 1) (gs a 2) (gs a 3) (gr a 4) (gr a 5) (gi b 0) (gs b 1) (gs b 2) (gs b 3) (gr b 4) (gr b 5) p_ _) ?_
        refine Tot.f (decide_eq_false (by omega)) ?_
        refine Tot.in0 (Tot.every (H := fun k x y v => Bf_l1 (lv k) k (gi a 0) (gs a 1) (gs a 2) (gs a 3) (gr a 4) (gr a 5) (gi b 0) (gs b 1) (gs b 2) (gs b 3) (gr b 4) (gr b 5) x v) (n := (gr a 5).length) (p := fun i => Ck true ((gr a 5).getD i []) ((gr b 5).getD i [])) (by omega) (fun h j hj => by cases h with | filter _ _ _ _ _ _ _ e => exact e j hj) (fun ht => ?_) (fun i Q hi hf ht => ?_))
        · refine Tot.step0 (fun k p_ q_ => Bf_l1_q (lv k) k (gi a 0) (gs a 1) (gs a 2) (gs a 3) (gr a 4) (gr a 5) (gi b 0) (gs b 1) (gs b 2) (gs b 3) (gr b 4) (gr b 5) p_ _) ?_
          exact Tot.f (decide_eq_false (by omega)) (Tot.ret ⟨fun _ => .filter h0 h1 h1' h2 h3 h4 hs ht, fun _ => rfl⟩)
        · refine Tot.step0 (fun k p_ q_ => Bf_l1_q (lv k) k (gi a 0) (gs a 1) (gs a 2) (gs a 3) (gr a 4) (gr a 5) (gi b 0) (gs b 1) (gs b 2) (gs b 3) (gr b 4) (gr b 5) p_ _) ?_
          rw [Int.toNat_natCast]
          repeat (refine Tot.t (decide_eq_true (by omega)) ?_)
          exact Tot.bind (ih.1 _ _ (Gu hM hi) ((ha.gr 5).get i) ((hb.gr 5).get i)) fun r hr => Tot.cond (fun hn => Tot.ret (hf fun h => by rw [hr.2 h] at hn; cases hn)) (fun hn => ht (hr.1 (by simpa using hn)))
      · refine Tot.step0 (fun k p_ q_ => Bf_l0_q (lv k) k (gi a 0) (gs a 1) (gs a 2) (gs a 3) (gr a 4) (gr a 5) (gi b 0) (gs b 1) (gs b 2) (gs b 3) (gr b 4) (gr b 5) p_ _) ?_
        rw [Int.toNat_natCast]
        repeat (refine Tot.t (decide_eq_true (by omega)) ?_)
        exact Tot.bind (ih.2 _ _ (Gu hM hi) ((ha.gr 4).get i) ((hb.gr 4).get i)) fun r hr => Tot.cond (fun hn => Tot.ret (hf fun h => by rw [hr.2 h] at hn; cases hn)) (fun hn => ht (hr.1 (by simpa using hn)))
theorem Abf (a b : List C) (ha : SmR BB a) (hb : SmR BB b) : Tot (fun k _ _ => (lv k).Ba (gi a 0) (gr a 1) (gr a 2) (gi b 0) (gr b 1) (gr b 2)) (AlQ true a b) := (Abg _).1 a b (Nat.lt_succ_self _) ha hb
theorem Aac : ∀ M : Nat,
    (∀ (a b : List C), SizeOf.sizeOf a < M → SmR BB a → SmR BB b → Tot (fun k _ _ => (lv k).Cx (gi a 0) (gr a 1) (gr a 2) (gi b 0) (gr b 1) (gr b 2)) (AlQ true a b)) ∧
    (∀ (a b : List C), SizeOf.sizeOf a < M → SmR BB a → SmR BB b → Tot (fun k _ _ => (lv k).Dc (gi a 0) (gs a 1) (gs a 2) (gs a 3) (gr a 4) (gr a 5) (gi b 0) (gs b 1) (gs b 2) (gs b 3) (gr b 4) (gr b 5)) (AlQ false a b)) := by
  intro M
  induction M with
  | zero => exact ⟨fun _ _ h => by omega, fun _ _ h => by omega⟩
  | succ M ih =>
    have eqp : ∀ (j : Nat) (a b : List C), SizeOf.sizeOf a < M + 1 → SmR BB a → SmR BB b → Tot (fun k _ _ => (lv k).Bx (gr a j) (gr b j)) (fun r => r = true ↔ (gr a j).length = (gr b j).length ∧ ∀ i, i < (gr a j).length → Ck true ((gr a j).getD i []) ((gr b j).getD i [])) := by
      intro j a b hM ha hb
      have hl1 : (gr a j).length ≤ 1048576 := (ha.gr j).1
      refine Bx_up _ _ (Tot.congr ?_ (fun k _ _ => Bx_q (lv k) k (gr a j) (gr b j)))
      refine Tot.cond (fun h => Tot.ret ⟨fun e => (by cases e), fun e => absurd e.1 (lent h)⟩) (fun h1 => ?_)
      have h1 := Jh h1
      refine Tot.in0 (Tot.every (H := fun k x y v => Bx_l0 (lv k) k (gr a j) (gr b j) x v) (n := (gr a j).length) (p := fun i => Ck true ((gr a j).getD i []) ((gr b j).getD i [])) (by omega) (fun h => h.2) (fun hs => ?_) (fun i Q hi hf ht => ?_))
      · refine Tot.step0 (fun k p_ q_ => Bx_l0_q (lv k) k (gr a j) (gr b j) p_ _) ?_
        exact Tot.f (decide_eq_false (by omega)) (Tot.ret ⟨fun _ => ⟨h1, hs⟩, fun _ => rfl⟩)
      · refine Tot.step0 (fun k p_ q_ => Bx_l0_q (lv k) k (gr a j) (gr b j) p_ _) ?_
        rw [Int.toNat_natCast]
        repeat (refine Tot.t (decide_eq_true (by omega)) ?_)
        exact Tot.bind (ih.1 _ _ (Gu hM hi) ((ha.gr j).get i) ((hb.gr j).get i)) fun r hr => Tot.cond (fun hn => Tot.ret (hf fun h => by rw [hr.2 h] at hn; cases hn)) (fun hn => ht (hr.1 (by simpa using hn)))
    have eqf : ∀ (j : Nat) (a b : List C), SizeOf.sizeOf a < M + 1 → SmR BB a → SmR BB b → Tot (fun k _ _ => (lv k).Bw (gr a j) (gr b j)) (fun r => r = true ↔ (gr a j).length = (gr b j).length ∧ ∀ i, i < (gr a j).length → Ck false ((gr a j).getD i []) ((gr b j).getD i [])) := by
      intro j a b hM ha hb
      have hl1 : (gr a j).length ≤ 1048576 := (ha.gr j).1
      refine Bw_up _ _ (Tot.congr ?_ (fun k _ _ => Bw_q (lv k) k (gr a j) (gr b j)))
      refine Tot.cond (fun h => Tot.ret ⟨fun e => (by cases e), fun e => absurd e.1 (lent h)⟩) (fun h1 => ?_)
      have h1 := Jh h1
      refine Tot.in0 (Tot.every (H := fun k x y v => Bw_l0 (lv k) k (gr a j) (gr b j) x v) (n := (gr a j).length) (p := fun i => Ck false ((gr a j).getD i []) ((gr b j).getD i [])) (by omega) (fun h => h.2) (fun hs => ?_) (fun i Q hi hf ht => ?_))
      · refine Tot.step0 (fun k p_ q_ => Bw_l0_q (lv k) k (gr a j) (gr b j) p_ _) ?_
        exact Tot.f (decide_eq_false (by omega)) (Tot.ret ⟨fun _ => ⟨h1, hs⟩, fun _ => rfl⟩)
      · refine Tot.step0 (fun k p_ q_ => Bw_l0_q (lv k) k (gr a j) (gr b j) p_ _) ?_
        rw [Int.toNat_natCast]
        repeat (refine Tot.t (decide_eq_true (by omega)) ?_)
        exact Tot.bind (ih.2 _ _ (Gu hM hi) ((ha.gr j).get i) ((hb.gr j).get i)) fun r hr => Tot.cond (fun hn => Tot.ret (hf fun h => by rw [hr.2 h] at hn; cases hn)) (fun hn => ht (hr.1 (by simpa using hn)))
    constructor
    · intro a b hM ha hb
      have no : ¬ Ck true a b → Tot (fun _ _ _ => some false) (AlQ true a b) := fun h => Tot.ret (Lj h)
      refine Cx_up _ _ _ _ _ _ (Tot.congr ?_ (fun k _ _ => Cx_q (lv k) k (gi a 0) (gr a 1) (gr a 2) (gi b 0) (gr b 1) (gr b 2)))
      refine Tot.cond (fun h0 => Tot.bind (eqp 1 a b hM ha hb) fun r1 hr1 => Tot.cond (fun h1 => Tot.bind (eqf 2 a b hM ha hb) fun r2 hr2 => Tot.ret ⟨fun e => ?_, fun e => ?_⟩) (fun h1 => no fun h => ?_)) (fun h0 => no fun h => ?_)
      · obtain ⟨q1, q2⟩ := hr1.1 h1
        obtain ⟨q3, q4⟩ := hr2.1 e
        exact .path (eq_of_beq h0) q1 q3 q2 q4
      · cases e with
        | path e1 e2 e3 e4 e5 => exact hr2.2 ⟨e3, e5⟩
      · cases h with
        | path e1 e2 e3 e4 e5 => rw [hr1.2 ⟨e2, e4⟩] at h1; cases h1
      · cases h with
        | path e1 e2 e3 e4 e5 => rw [e1] at h0; simp at h0
    · intro a b hM ha hb
      have no : ¬ Ck false a b → Tot (fun _ _ _ => some false) (AlQ false a b) := fun h => Tot.ret (Lj h)
      refine Dc_up _ _ _ _ _ _ _ _ _ _ _ _ (Tot.congr ?_ (fun k _ _ => Dc_q (lv k) k (gi a 0) (gs a 1) (gs a 2) (gs a 3) (gr a 4) (gr a 5) (gi b 0) (gs b 1) (gs b 2) (gs b 3) (gr b 4) (gr b 5)))
      refine Tot.cond (fun h0 => Tot.cond (fun g1 => Tot.cond (fun g2 => Tot.bind (eqf 4 a b hM ha hb) fun r1 hr1 => Tot.cond (fun h1 => Tot.bind (eqp 5 a b hM ha hb) fun r2 hr2 => Tot.ret ⟨fun e => ?_, fun e => ?_⟩) (fun h1 => no fun h => ?_)) (fun g2 => no fun h => ?_)) (fun g1 => no fun h => ?_)) (fun h0 => no fun h => ?_)
      · obtain ⟨q1, q2⟩ := hr1.1 h1
        obtain ⟨q3, q4⟩ := hr2.1 e
        obtain ⟨q5, q6⟩ := Fs.1 g1
        exact .filter (eq_of_beq h0) q5 q6 (Fm.1 g2) q1 q3 q2 q4
      · cases e with
        | filter e1 e2 e3 e4 e5 e6 e7 e8 => exact hr2.2 ⟨e6, e8⟩
      · cases h with
        | filter e1 e2 e3 e4 e5 e6 e7 e8 => rw [hr1.2 ⟨e5, e7⟩] at h1; cases h1
      · cases h with
        | filter e1 e2 e3 e4 e5 e6 e7 e8 => rw [Fm.2 e4] at g2; cases g2
      · cases h with
        | filter e1 e2 e3 e4 e5 e6 e7 e8 => rw [Fs.2 ⟨e2, e3⟩] at g1; cases g1
      · cases h with
        | filter e1 e2 e3 e4 e5 e6 e7 e8 => rw [e1] at h0; simp at h0
theorem Aab (a b : List C) (ha : SmR BB a) (hb : SmR BB b) : Tot (fun k _ _ => (lv k).Cx (gi a 0) (gr a 1) (gr a 2) (gi b 0) (gr b 1) (gr b 2)) (AlQ true a b) := (Aac _).1 a b (Nat.lt_succ_self _) ha hb
def POk : Nat → Int → LL → LL → Prop
  | 0, _, _, _ => False
  | d + 1, op, subs, tests => 1 ≤ op ∧ op ≤ 7 ∧ (op = 4 ∨ op = 5 → 2 ≤ subs.length) ∧ (op = 6 → subs.length = 1) ∧ (op = 7 ↔ tests.length = 1) ∧ tests.length ≤ 1 ∧ subs.length ≤ 64 ∧ (op ≠ 4 → op ≠ 5 → op ≠ 6 → subs.length = 0) ∧ ∀ r, r ∈ subs → POk d (gi r 0) (gr r 1) (gr r 2)
def pc : Nat → LL → Nat
  | 0, _ => 1
  | d + 1, l => 1 + (l.map fun r => pc d (gr r 1)).sum
theorem Ge {l : LL} {r : List C} (h : r ∈ l) : ∃ i, i < l.length ∧ l.getD i [] = r := by
  obtain ⟨i, hi, rfl⟩ := List.getElem_of_mem h
  exact ⟨i, hi, by rw [List.getD_eq_getElem?_getD, List.getElem?_eq_getElem hi]; rfl⟩
theorem Ze : ∀ {d : Nat} {a : List C}, ok d true a → POk d (gi a 0) (gr a 1) (gr a 2) := by
  intro d
  induction d with
  | zero => intro a h; exact h.elim
  | succ d ih =>
    intro a h
    obtain ⟨h1, h2, h3, h4, h5, h6, h7, h8, h9, h10⟩ := h
    refine ⟨h1, h2, h3, h4, h5, h6, h7, h8, fun r hr => ?_⟩
    obtain ⟨i, hi, rfl⟩ := Ge hr
    exact ih (h9 i hi)
theorem Z4 : ∀ (d : Nat) (a : List C), pc d (gr a 1) ≤ sz d true a := by
  intro d
  induction d with
  | zero => intro a; exact Nat.le_refl _
  | succ d ih =>
    intro a
    have : ∀ l : LL, (l.map fun r => pc d (gr r 1)).sum ≤ (l.map (sz d true)).sum := by
      intro l
      induction l with
      | nil => exact Nat.le_refl _
      | cons x l ihl => simp only [List.map_cons, List.sum_cons]; have := ih x; omega
    have := this (gr a 1)
    simp only [pc, sz]
    omega
structure Mk where
  n : Int
  E : LL
  T : LL
  s : Int
  e : Int
def st4 (a b k t : Int) : List C := [C.int .i64 a, C.int .i64 b, C.int .i64 k, C.int .i64 t]
def Er (f : List C → Int → Int → Mk) (t : Int) : LL → Mk → Mk
  | [], m => m
  | r :: l, m => Er f t l ⟨(f r m.n (t + m.T.length)).n, m.E ++ ((f r m.n (t + m.T.length)).E ++ [st4 m.e (f r m.n (t + m.T.length)).s 0 0]), m.T ++ (f r m.n (t + m.T.length)).T, m.s, (f r m.n (t + m.T.length)).e⟩
structure Al where
  n : Int
  E : LL
  T : LL
  es : List Int
def Dv (f : List C → Int → Int → Mk) (t s : Int) : LL → Al → Al
  | [], m => m
  | r :: l, m => Dv f t s l ⟨(f r m.n (t + m.T.length)).n, m.E ++ ((f r m.n (t + m.T.length)).E ++ [st4 s (f r m.n (t + m.T.length)).s 0 0]), m.T ++ (f r m.n (t + m.T.length)).T, m.es ++ [(f r m.n (t + m.T.length)).e]⟩
def Ha (op : Int) : Int := if op = 2 then 1 else if op = 3 then 2 else 0
def mk : Nat → Int → LL → LL → Int → Int → Mk
  | 0, _, _, _, n, _ => ⟨n, [], [], n, n⟩
  | d + 1, op, subs, tests, n, t =>
    if op = 4 then match subs with
      | [] => ⟨n, [], [], n, n⟩
      | r :: l => Er (fun r => mk d (gi r 0) (gr r 1) (gr r 2)) t l (mk d (gi r 0) (gr r 1) (gr r 2) n t)
    else if op = 5 then
      let a := Dv (fun r => mk d (gi r 0) (gr r 1) (gr r 2)) t n subs ⟨n + 1, [], [], []⟩
      ⟨a.n + 1, a.E ++ a.es.map (fun b => st4 b a.n 0 0), a.T, n, a.n⟩
    else if op = 6 then match subs with
      | [] => ⟨n, [], [], n, n⟩
      | r :: _ => ⟨(mk d (gi r 0) (gr r 1) (gr r 2) (n + 1) t).n, (mk d (gi r 0) (gr r 1) (gr r 2) (n + 1) t).E ++ [st4 n (mk d (gi r 0) (gr r 1) (gr r 2) (n + 1) t).s 0 0] ++ [st4 (mk d (gi r 0) (gr r 1) (gr r 2) (n + 1) t).e n 0 0], (mk d (gi r 0) (gr r 1) (gr r 2) (n + 1) t).T, n, n⟩
    else if op = 7 then ⟨n + 2, [st4 n (n + 1) 3 t], tests, n, n + 1⟩
    else ⟨n + 2, [st4 n (n + 1) (Ha op) 0], [], n, n + 1⟩
structure MkB (c : Nat) (n : Int) (m : Mk) : Prop where
  lo : n ≤ m.n
  hi : m.n ≤ n + 2 * c
  e : m.E.length + 2 ≤ 3 * c
  t : m.T.length ≤ c
def pcs (d : Nat) (l : LL) : Nat := (l.map fun r => pc d (gr r 1)).sum
theorem Gv (d : Nat) (r : List C) (l : LL) : pcs d (r :: l) = pc d (gr r 1) + pcs d l := by simp [pcs]
theorem Sc (d : Nat) (l : LL) : pc (d + 1) l = 1 + pcs d l := rfl
theorem Abv {f : List C → Int → Int → Mk} {d : Nat} {t : Int} : ∀ {l : LL} {m : Mk}, (∀ r, r ∈ l → ∀ n t, MkB (pc d (gr r 1)) n (f r n t)) →
    m.n ≤ (Er f t l m).n ∧ (Er f t l m).n ≤ m.n + 2 * pcs d l ∧ (Er f t l m).E.length ≤ m.E.length + 3 * pcs d l ∧ (Er f t l m).T.length ≤ m.T.length + pcs d l := by
  intro l
  induction l with
  | nil => intro m _; simp [Er, pcs]
  | cons r l ih =>
    intro m hf
    have h1 := hf r List.mem_cons_self m.n (t + m.T.length)
    have h2 := ih (m := ⟨(f r m.n (t + m.T.length)).n, m.E ++ ((f r m.n (t + m.T.length)).E ++ [st4 m.e (f r m.n (t + m.T.length)).s 0 0]), m.T ++ (f r m.n (t + m.T.length)).T, m.s, (f r m.n (t + m.T.length)).e⟩) (fun r hr => hf r (List.mem_cons_of_mem _ hr))
    obtain ⟨a1, a2, a3, a4⟩ := h1
    rw [Gv]
    simp only [List.length_append, List.length_cons, List.length_nil] at h2
    show m.n ≤ (Er f t l _).n ∧ (Er f t l _).n ≤ _ ∧ (Er f t l _).E.length ≤ _ ∧ (Er f t l _).T.length ≤ _
    omega
theorem Uk {f : List C → Int → Int → Mk} {d : Nat} {t s : Int} : ∀ {l : LL} {m : Al}, (∀ r, r ∈ l → ∀ n t, MkB (pc d (gr r 1)) n (f r n t)) →
    m.n ≤ (Dv f t s l m).n ∧ (Dv f t s l m).n ≤ m.n + 2 * pcs d l ∧ (Dv f t s l m).E.length + (Dv f t s l m).es.length ≤ m.E.length + m.es.length + 3 * pcs d l ∧ (Dv f t s l m).T.length ≤ m.T.length + pcs d l ∧ (Dv f t s l m).es.length = m.es.length + l.length := by
  intro l
  induction l with
  | nil => intro m _; simp [Dv, pcs]
  | cons r l ih =>
    intro m hf
    have h1 := hf r List.mem_cons_self m.n (t + m.T.length)
    have h2 := ih (m := ⟨(f r m.n (t + m.T.length)).n, m.E ++ ((f r m.n (t + m.T.length)).E ++ [st4 s (f r m.n (t + m.T.length)).s 0 0]), m.T ++ (f r m.n (t + m.T.length)).T, m.es ++ [(f r m.n (t + m.T.length)).e]⟩) (fun r hr => hf r (List.mem_cons_of_mem _ hr))
    obtain ⟨a1, a2, a3, a4⟩ := h1
    rw [Gv]
    simp only [List.length_append, List.length_cons, List.length_nil] at h2 ⊢
    show m.n ≤ (Dv f t s l _).n ∧ (Dv f t s l _).n ≤ _ ∧ (Dv f t s l _).E.length + (Dv f t s l _).es.length ≤ _ ∧ (Dv f t s l _).T.length ≤ _ ∧ (Dv f t s l _).es.length = _
    omega
theorem H6 : ∀ (d : Nat) (op : Int) (subs tests : LL) (n t : Int), POk d op subs tests → MkB (pc d subs) n (mk d op subs tests n t) := by
  intro d
  induction d with
  | zero => intro op subs tests n t h; exact h.elim
  | succ d ih =>
    intro op subs tests n t h
    obtain ⟨h1, h7, h45, h6, h77, ht, hl, h0, hsub⟩ := h
    have hf : ∀ r, r ∈ subs → ∀ n t, MkB (pc d (gr r 1)) n (mk d (gi r 0) (gr r 1) (gr r 2) n t) := fun r hr n t => ih _ _ _ n t (hsub r hr)
    rw [Sc]
    unfold mk
    by_cases e4 : op = 4
    · rw [if_pos e4]
      cases subs with
      | nil => have := h45 (.inl e4); simp at this
      | cons r l =>
        have a := hf r List.mem_cons_self n t
        have b := Abv (t := t) (m := mk d (gi r 0) (gr r 1) (gr r 2) n t) (fun r hr => hf r (List.mem_cons_of_mem _ hr))
        obtain ⟨a1, a2, a3, a4⟩ := a
        rw [Gv]
        exact ⟨by show n ≤ (Er _ _ _ _).n; omega, by show (Er _ _ _ _).n ≤ _; omega, by show (Er _ _ _ _).E.length + 2 ≤ _; omega, by show (Er _ _ _ _).T.length ≤ _; omega⟩
    · rw [if_neg e4]
      by_cases e5 : op = 5
      · rw [if_pos e5]
        have b := Uk (t := t) (s := n) (m := ⟨n + 1, [], [], []⟩) hf
        simp only [List.length_nil] at b
        exact ⟨by show n ≤ (Dv _ _ _ _ _).n + 1; omega, by show (Dv _ _ _ _ _).n + 1 ≤ _; omega, by show ((Dv _ _ _ _ _).E ++ _).length + 2 ≤ _; rw [List.length_append, List.length_map]; omega, by show (Dv _ _ _ _ _).T.length ≤ _; omega⟩
      · rw [if_neg e5]
        by_cases e6 : op = 6
        · rw [if_pos e6]
          cases subs with
          | nil => have := h6 e6; simp at this
          | cons r l =>
            obtain ⟨a1, a2, a3, a4⟩ := hf r List.mem_cons_self (n + 1) t
            rw [Gv]
            exact ⟨by show n ≤ (mk _ _ _ _ _ _).n; omega, by show (mk _ _ _ _ _ _).n ≤ _; omega, by simp only [List.length_append, List.length_cons, List.length_nil]; omega, by show (mk _ _ _ _ _ _).T.length ≤ _; omega⟩
        · rw [if_neg e6]
          by_cases e7 : op = 7
          · rw [if_pos e7]
            exact ⟨by show n ≤ n + 2; omega, by show n + 2 ≤ _; omega, by show 1 + 2 ≤ _; omega, by show tests.length ≤ _; omega⟩
          · rw [if_neg e7]
            exact ⟨by show n ≤ n + 2; omega, by show n + 2 ≤ _; omega, by show 1 + 2 ≤ _; omega, by show 0 ≤ _; omega⟩
theorem P7 {l rest : LL} {r : List C} {i : Nat} (h : l.drop i = r :: rest) : i < l.length ∧ l.getD i [] = r ∧ l.drop (i + 1) = rest := by
  have h1 : i < l.length := by
    rcases Nat.lt_or_ge i l.length with h1 | h1
    · exact h1
    · rw [List.drop_eq_nil_of_le h1] at h; cases h
  rw [List.drop_eq_getElem_cons h1] at h
  obtain ⟨h2, h3⟩ := List.cons.inj h
  exact ⟨h1, by rw [List.getD_eq_getElem?_getD, List.getElem?_eq_getElem h1]; exact h2, h3⟩
theorem Pz : Try.prog.bytesOf 83 ≤ 1024 := of_decide_eq_true (by kernel_rfl)
theorem Py : Try.prog.bytesOf 66 ≤ 1024 := of_decide_eq_true (by kernel_rfl)
theorem Pw : Try.prog.bytesOf 3 ≤ 1024 := of_decide_eq_true (by kernel_rfl)
abbrev fr (d : Nat) (r : List C) (n t : Int) : Mk := mk d (gi r 0) (gr r 1) (gr r 2) n t
def E9 (l : List Int) : LL := l.map fun b => [C.int .i64 b]
theorem Wc {l rest : List Int} {b : Int} {i : Nat} (h : l.drop i = b :: rest) : i < (E9 l).length ∧ gi ((E9 l).getD i []) 0 = b ∧ l.drop (i + 1) = rest := by
  have h1 : i < l.length := by
    rcases Nat.lt_or_ge i l.length with h1 | h1
    · exact h1
    · rw [List.drop_eq_nil_of_le h1] at h; cases h
  rw [List.drop_eq_getElem_cons h1] at h
  obtain ⟨h2, h3⟩ := List.cons.inj h
  refine ⟨by simpa [E9] using h1, ?_, h3⟩
  rw [List.getD_eq_getElem?_getD, E9, List.getElem?_map, List.getElem?_eq_getElem h1, h2]
  rfl
theorem Rl {d : Nat} {op : Int} {r : List C} {l tests : LL} {n t : Int} (h : op = 4) : mk (d + 1) op (r :: l) tests n t = Er (fr d) t l (fr d r n t) := by
  show (if op = 4 then _ else _) = _
  rw [if_pos h]
theorem Rm {d : Nat} {op : Int} {subs tests : LL} {n t : Int} (h : op = 5) : mk (d + 1) op subs tests n t = ⟨(Dv (fr d) t n subs ⟨n + 1, [], [], []⟩).n + 1, (Dv (fr d) t n subs ⟨n + 1, [], [], []⟩).E ++ (Dv (fr d) t n subs ⟨n + 1, [], [], []⟩).es.map (fun b => st4 b (Dv (fr d) t n subs ⟨n + 1, [], [], []⟩).n 0 0), (Dv (fr d) t n subs ⟨n + 1, [], [], []⟩).T, n, (Dv (fr d) t n subs ⟨n + 1, [], [], []⟩).n⟩ := by
  show (if op = 4 then _ else if op = 5 then _ else _) = _
  rw [if_neg (by omega), if_pos h]
theorem Ro {d : Nat} {op : Int} {r : List C} {l tests : LL} {n t : Int} (h : op = 6) : mk (d + 1) op (r :: l) tests n t = ⟨(fr d r (n + 1) t).n, (fr d r (n + 1) t).E ++ [st4 n (fr d r (n + 1) t).s 0 0] ++ [st4 (fr d r (n + 1) t).e n 0 0], (fr d r (n + 1) t).T, n, n⟩ := by
  show (if op = 4 then _ else if op = 5 then _ else if op = 6 then _ else _) = _
  rw [if_neg (by omega), if_neg (by omega), if_pos h]
theorem Rp {d : Nat} {op : Int} {subs tests : LL} {n t : Int} (h : op = 7) : mk (d + 1) op subs tests n t = ⟨n + 2, [st4 n (n + 1) 3 t], tests, n, n + 1⟩ := by
  show (if op = 4 then _ else if op = 5 then _ else if op = 6 then _ else if op = 7 then _ else _) = _
  rw [if_neg (by omega), if_neg (by omega), if_neg (by omega), if_pos h]
theorem Rk {d : Nat} {op : Int} {subs tests : LL} {n t : Int} (h4 : op ≠ 4) (h5 : op ≠ 5) (h6 : op ≠ 6) (h7 : op ≠ 7) : mk (d + 1) op subs tests n t = ⟨n + 2, [st4 n (n + 1) (Ha op) 0], [], n, n + 1⟩ := by
  show (if op = 4 then _ else if op = 5 then _ else if op = 6 then _ else if op = 7 then _ else _) = _
  rw [if_neg h4, if_neg h5, if_neg h6, if_neg h7]
def nf (r : List C) : List C := [C.int .i64 (gi r 0), C.str (gs r 1), C.str (gs r 2), C.str (gs r 3), C.row 66 (gr r 4), C.row 25 (gr r 5)]
theorem G6 (n s e : Int) (E T : LL) (a b kd t : Int) (h : E.length ≤ 3000000000) : Tot (fun k _ _ => (lv k).Cc n s e E T a b kd t) (fun r => r = (n, s, e, E ++ [st4 a b kd t], T)) := by
  refine Cc_up _ _ _ _ _ _ _ _ _ (Tot.congr ?_ (fun k _ _ => Cc_q (lv k) k n s e E T a b kd t))
  exact Tot.t (D2 Pz (by omega)) (Tot.t (D2 Pz (by omega)) (Tot.ret rfl))
def RA (d : Nat) : Prop := ∀ (op : Int) (subs tests : LL) (n s e : Int) (E T : LL), POk d op subs tests → 0 ≤ n → n + 2 * pc d subs ≤ 1000000 → E.length + 3 * pc d subs ≤ 1000000 → T.length + pc d subs ≤ 1000000 →
  Tot (fun k _ _ => (lv k).Ah n s e E T op subs tests) (fun r => r = ((mk d op subs tests n T.length).n, s, e, E ++ (mk d op subs tests n T.length).E, T ++ (mk d op subs tests n T.length).T.map nf, (mk d op subs tests n T.length).s, (mk d op subs tests n T.length).e))
theorem Aap {d : Nat} (ih : RA d) (r0 r1 : List C) (l0 : LL) (tests : LL) (hsub : ∀ r, r ∈ r0 :: r1 :: l0 → POk d (gi r 0) (gr r 1) (gr r 2)) (hlen : l0.length ≤ 1000) (n s e : Int) (E T : LL) (h0 : 0 ≤ n) (hn : n + 2 * pcs d (r0 :: r1 :: l0) ≤ 1000000) (hE : E.length + 3 * pcs d (r0 :: r1 :: l0) ≤ 1000000) (hT : T.length + pcs d (r0 :: r1 :: l0) ≤ 1000000) (al : Mk) (hal : al = Er (fr d) T.length (r1 :: l0) (fr d r0 n T.length)) :
    Tot (fun k _ _ => ((lv k).Ah n s e E T (gi r0 0) (gr r0 1) (gr r0 2)).bind fun q => Ah_l3 (lv k) k n s e E T 4 (r0 :: r1 :: l0) tests k q.2.2.2.2.2.1 q.1 q.2.1 q.2.2.1 q.2.2.2.1 q.2.2.2.2.1 q.2.2.2.2.2.1 q.2.2.2.2.2.2) (fun r => r = (al.n, s, e, E ++ al.E, T ++ al.T.map nf, al.s, al.e)) := by
  have hl : ((r0 :: r1 :: l0).length : Int) = l0.length + 2 := by simp; omega
  rw [Gv, Gv] at hn hE hT
  have loop : ∀ (rest : LL) (m : Mk) (v : Int), al = Er (fr d) T.length rest m → 0 ≤ v → (r0 :: r1 :: l0).drop v.toNat = rest → 0 ≤ m.n → m.n + 2 * pcs d rest ≤ 1000000 → E.length + m.E.length + 3 * pcs d rest ≤ 1000000 → T.length + m.T.length + pcs d rest ≤ 1000000 →
      Tot (fun k a b => Ah_l5 (lv k) k n s e E T 4 (r0 :: r1 :: l0) tests a m.s v m.n s e (T ++ m.T.map nf) m.s m.e (E ++ m.E)) (fun r => r = (al.n, s, e, E ++ al.E, T ++ al.T.map nf, al.s, al.e)) := by
    intro rest
    induction rest with
    | nil =>
      intro m v hm hv hr _ _ _ _
      obtain rfl : al = m := hm
      refine Tot.step0 (fun k a b => Ah_l5_q (lv k) k n s e E T 4 (r0 :: r1 :: l0) tests a al.s v al.n s e (T ++ al.T.map nf) al.s al.e (E ++ al.E)) ?_
      have := List.drop_eq_nil_iff.1 hr
      exact Tot.f (decide_eq_false (by omega)) (Tot.ret rfl)
    | cons r rest ihr =>
      intro m v hm hv hr h1 h2 h3 h4
      obtain ⟨g1, g2, g3⟩ := P7 hr
      refine Tot.step0 (fun k a b => Ah_l5_q (lv k) k n s e E T 4 (r0 :: r1 :: l0) tests a m.s v m.n s e (T ++ m.T.map nf) m.s m.e (E ++ m.E)) ?_
      rw [g2, Ag (x := v + 1) (by omega) (by omega)]
      have hok : POk d (gi r 0) (gr r 1) (gr r 2) := hsub r (by rw [← g2]; exact D1 g1)
      rw [Gv] at h2 h3 h4
      obtain ⟨b1, b2, b3, b4⟩ := (show MkB (pc d (gr r 1)) m.n (fr d r m.n (T.length + m.T.length)) from H6 d _ _ _ m.n _ hok)
      refine Tot.t (decide_eq_true (by omega)) (Tot.t (decide_eq_true (by omega)) (Tot.t (decide_eq_true (by omega)) ?_))
      have hp := ih _ _ _ m.n s e (E ++ m.E) (T ++ m.T.map nf) hok h1 (by omega) (by rw [List.length_append]; omega) (by rw [List.length_append, List.length_map]; omega)
      rw [show ((T ++ m.T.map nf).length : Int) = T.length + m.T.length by simp] at hp
      refine Tot.bind hp fun x hx => ?_
      subst hx
      have he : (E ++ m.E ++ (fr d r m.n (T.length + m.T.length)).E).length ≤ 3000000000 := by simp only [List.length_append]; omega
      refine Tot.bind (G6 _ s e _ _ _ _ 0 0 he) fun x hx => ?_
      subst hx
      have := ihr ⟨(fr d r m.n (T.length + m.T.length)).n, m.E ++ ((fr d r m.n (T.length + m.T.length)).E ++ [st4 m.e (fr d r m.n (T.length + m.T.length)).s 0 0]), m.T ++ (fr d r m.n (T.length + m.T.length)).T, m.s, (fr d r m.n (T.length + m.T.length)).e⟩ (v + 1) hm (by omega) (by rw [show (v + 1).toNat = v.toNat + 1 by omega]; exact g3)
      have := this (by show (0 : Int) ≤ (fr d r m.n (T.length + m.T.length)).n; omega) (by show (fr d r m.n (T.length + m.T.length)).n + _ ≤ _; omega) (by show E.length + (m.E ++ ((fr d r m.n (T.length + m.T.length)).E ++ [_])).length + _ ≤ _; simp only [List.length_append, List.length_cons, List.length_nil]; omega) (by show T.length + (m.T ++ (fr d r m.n (T.length + m.T.length)).T).length + _ ≤ _; simp only [List.length_append]; omega)
      simp only [List.map_append, List.append_assoc] at this ⊢
      exact this
  have hok := hsub r0 List.mem_cons_self
  have hok1 := hsub r1 (List.mem_cons_of_mem _ List.mem_cons_self)
  obtain ⟨b1, b2, b3, b4⟩ := (show MkB (pc d (gr r0 1)) n (fr d r0 n T.length) from H6 d _ _ _ n _ hok)
  refine Tot.bind (ih _ _ _ n s e E T hok h0 (by omega) (by omega) (by omega)) fun x hx => ?_
  subst hx
  refine Tot.in0 (g := fun k a _ => Ah_l3 (lv k) k n s e E T 4 (r0 :: r1 :: l0) tests a (fr d r0 n T.length).s (fr d r0 n T.length).n s e (E ++ (fr d r0 n T.length).E) (T ++ (fr d r0 n T.length).T.map nf) (fr d r0 n T.length).s (fr d r0 n T.length).e) (Tot.step0 (fun k a b => Ah_l3_q (lv k) k n s e E T 4 (r0 :: r1 :: l0) tests a (fr d r0 n T.length).s (fr d r0 n T.length).n s e (E ++ (fr d r0 n T.length).E) (T ++ (fr d r0 n T.length).T.map nf) (fr d r0 n T.length).s (fr d r0 n T.length).e) ?_)
  refine Tot.t (decide_eq_true (by omega)) (Tot.t (decide_eq_true (by omega)) ?_)
  obtain ⟨c1, c2, c3, c4⟩ := (show MkB (pc d (gr r1 1)) (fr d r0 n T.length).n (fr d r1 (fr d r0 n T.length).n (T.length + (fr d r0 n T.length).T.length)) from H6 d _ _ _ _ _ hok1)
  have hp := ih _ _ _ (fr d r0 n T.length).n s e (E ++ (fr d r0 n T.length).E) (T ++ (fr d r0 n T.length).T.map nf) hok1 (by omega) (by omega) (by rw [List.length_append]; omega) (by rw [List.length_append, List.length_map]; omega)
  rw [show ((T ++ (fr d r0 n T.length).T.map nf).length : Int) = T.length + (fr d r0 n T.length).T.length by simp] at hp
  refine Tot.bind hp fun x hx => ?_
  subst hx
  generalize hm : fr d r0 n T.length = m at *
  have he : (E ++ m.E ++ (fr d r1 m.n (T.length + m.T.length)).E).length ≤ 3000000000 := by simp only [List.length_append]; omega
  refine Tot.bind (G6 _ s e _ _ _ _ 0 0 he) fun x hx => ?_
  subst hx
  have := loop l0 ⟨(fr d r1 m.n (T.length + m.T.length)).n, m.E ++ ((fr d r1 m.n (T.length + m.T.length)).E ++ [st4 m.e (fr d r1 m.n (T.length + m.T.length)).s 0 0]), m.T ++ (fr d r1 m.n (T.length + m.T.length)).T, m.s, (fr d r1 m.n (T.length + m.T.length)).e⟩ 2 hal (by omega) rfl (by show (0 : Int) ≤ (fr d r1 m.n (T.length + m.T.length)).n; omega) (by show (fr d r1 m.n (T.length + m.T.length)).n + _ ≤ _; omega) (by show E.length + (m.E ++ ((fr d r1 m.n (T.length + m.T.length)).E ++ [_])).length + _ ≤ _; simp only [List.length_append, List.length_cons, List.length_nil]; omega) (by show T.length + (m.T ++ (fr d r1 m.n (T.length + m.T.length)).T).length + _ ≤ _; simp only [List.length_append]; omega)
  simp only [List.map_append, List.append_assoc] at this ⊢
  exact this
theorem Aao {d : Nat} (ih : RA d) (r0 : List C) (l0 : LL) (tests : LL) (hsub : ∀ r, r ∈ r0 :: l0 → POk d (gi r 0) (gr r 1) (gr r 2)) (hlen : l0.length ≤ 1000) (n s e : Int) (E T : LL) (h0 : 0 ≤ n) (hn : n + 2 * (1 + pcs d (r0 :: l0)) ≤ 1000000) (hE : E.length + 3 * (1 + pcs d (r0 :: l0)) ≤ 1000000) (hT : T.length + pcs d (r0 :: l0) ≤ 1000000) (al : Al) (hal : al = Dv (fr d) T.length n (r0 :: l0) ⟨n + 1, [], [], []⟩) :
    Tot (fun k _ _ => Ah_l0 (lv k) k n s e E T 5 (r0 :: l0) tests k) (fun r => r = (al.n + 1, s, e, E ++ (al.E ++ al.es.map (fun b => st4 b al.n 0 0)), T ++ al.T.map nf, n, al.n)) := by
  have hl : ((r0 :: l0).length : Int) = l0.length + 1 := by simp
  have l6 : ∀ (es rest : List Int) (v1 : Int) (n' : Int) (E' T' : LL) (v : Int), 0 ≤ v → es.length ≤ 1000000 → es.drop v.toNat = rest → E'.length + rest.length ≤ 3000000 → Tot (fun k a b => Ah_l6 (lv k) k n s e E T 5 (r0 :: l0) tests a v1 v n' s e T' (E9 es) E') (fun r => r = (n', s, e, E' ++ rest.map (fun b => st4 b v1 0 0), T', n, v1)) := by
    intro es rest
    induction rest with
    | nil =>
      intro v1 n' E' T' v hv he hr _
      refine Tot.step0 (fun k a b => Ah_l6_q (lv k) k n s e E T 5 (r0 :: l0) tests a v1 v n' s e T' (E9 es) E') ?_
      have := List.drop_eq_nil_iff.1 hr
      have e1 : (E9 es).length = es.length := by simp [E9]
      exact Tot.f (decide_eq_false (by omega)) (Tot.ret (by simp))
    | cons b rest ihr =>
      intro v1 n' E' T' v hv he hr hb
      obtain ⟨g1, g2, g3⟩ := Wc hr
      have e1 : (E9 es).length = es.length := by simp [E9]
      refine Tot.step0 (fun k a b => Ah_l6_q (lv k) k n s e E T 5 (r0 :: l0) tests a v1 v n' s e T' (E9 es) E') ?_
      rw [g2, Ag (x := v + 1) (by omega) (by omega)]
      simp only [List.length_cons] at hb
      refine Tot.t (decide_eq_true (by omega)) (Tot.t (decide_eq_true (by omega)) (Tot.t (decide_eq_true (by omega)) ?_))
      refine Tot.bind (G6 n' s e E' T' b v1 0 0 (by omega)) fun x hx => ?_
      subst hx
      have := ihr v1 n' (E' ++ [st4 b v1 0 0]) T' (v + 1) (by omega) he (by rw [show (v + 1).toNat = v.toNat + 1 by omega]; exact g3) (by simp; omega)
      rw [List.append_assoc] at this
      exact this
  have loop : ∀ (rest : LL) (m : Al) (v : Int), al = Dv (fr d) T.length n rest m → 0 ≤ v → (r0 :: l0).drop v.toNat = rest → 0 ≤ m.n → m.n + 2 * pcs d rest ≤ 1000000 → E.length + m.E.length + 3 * pcs d rest + m.es.length ≤ 1000000 → T.length + m.T.length + pcs d rest ≤ 1000000 → m.es.length + rest.length ≤ 2000 →
      Tot (fun k a b => Ah_l4 (lv k) k n s e E T 5 (r0 :: l0) tests a v m.n s e (T ++ m.T.map nf) (E9 m.es) (E ++ m.E)) (fun r => r = (al.n + 1, s, e, E ++ (al.E ++ al.es.map (fun b => st4 b al.n 0 0)), T ++ al.T.map nf, n, al.n)) := by
    intro rest
    induction rest with
    | nil =>
      intro m v hm hv hr g1 g2 g3 g4 g5
      obtain rfl : al = m := hm
      refine Tot.step0 (fun k a b => Ah_l4_q (lv k) k n s e E T 5 (r0 :: l0) tests a v al.n s e (T ++ al.T.map nf) (E9 al.es) (E ++ al.E)) ?_
      have := List.drop_eq_nil_iff.1 hr
      refine Tot.f (decide_eq_false (by omega)) ?_
      rw [Ag (x := al.n + 1) (by omega) (by omega)]
      have := l6 al.es al.es al.n (al.n + 1) (E ++ al.E) (T ++ al.T.map nf) 0 (by omega) (by omega) rfl (by rw [List.length_append]; omega)
      rw [List.append_assoc] at this
      exact Tot.in0 this
    | cons r rest ihr =>
      intro m v hm hv hr h1 h2 h3 h4 h5
      obtain ⟨g1, g2, g3⟩ := P7 hr
      refine Tot.step0 (fun k a b => Ah_l4_q (lv k) k n s e E T 5 (r0 :: l0) tests a v m.n s e (T ++ m.T.map nf) (E9 m.es) (E ++ m.E)) ?_
      rw [g2, Ag (x := v + 1) (by omega) (by omega)]
      have hok : POk d (gi r 0) (gr r 1) (gr r 2) := hsub r (by rw [← g2]; exact D1 g1)
      rw [Gv] at h2 h3 h4
      simp only [List.length_cons] at h5
      obtain ⟨b1, b2, b3, b4⟩ := (show MkB (pc d (gr r 1)) m.n (fr d r m.n (T.length + m.T.length)) from H6 d _ _ _ m.n _ hok)
      refine Tot.t (decide_eq_true (by omega)) (Tot.t (decide_eq_true (by omega)) (Tot.t (decide_eq_true (by omega)) ?_))
      have hp := ih _ _ _ m.n s e (E ++ m.E) (T ++ m.T.map nf) hok h1 (by omega) (by rw [List.length_append]; omega) (by rw [List.length_append, List.length_map]; omega)
      rw [show ((T ++ m.T.map nf).length : Int) = T.length + m.T.length by simp] at hp
      refine Tot.bind hp fun x hx => ?_
      subst hx
      have he : (E ++ m.E ++ (fr d r m.n (T.length + m.T.length)).E).length ≤ 3000000000 := by simp only [List.length_append]; omega
      refine Tot.bind (G6 _ s e _ _ _ _ 0 0 he) fun x hx => ?_
      subst hx
      refine Tot.t (D2 Pw (by simp [E9]; omega)) ?_
      have := ihr ⟨(fr d r m.n (T.length + m.T.length)).n, m.E ++ ((fr d r m.n (T.length + m.T.length)).E ++ [st4 n (fr d r m.n (T.length + m.T.length)).s 0 0]), m.T ++ (fr d r m.n (T.length + m.T.length)).T, m.es ++ [(fr d r m.n (T.length + m.T.length)).e]⟩ (v + 1) hm (by omega) (by rw [show (v + 1).toNat = v.toNat + 1 by omega]; exact g3)
      have := this (by show (0 : Int) ≤ (fr d r m.n (T.length + m.T.length)).n; omega) (by show (fr d r m.n (T.length + m.T.length)).n + _ ≤ _; omega) (by show E.length + (m.E ++ ((fr d r m.n (T.length + m.T.length)).E ++ [_])).length + _ + (m.es ++ [_]).length ≤ _; simp only [List.length_append, List.length_cons, List.length_nil]; omega) (by show T.length + (m.T ++ (fr d r m.n (T.length + m.T.length)).T).length + _ ≤ _; simp only [List.length_append]; omega) (by show (m.es ++ [_]).length + _ ≤ _; simp only [List.length_append, List.length_cons, List.length_nil]; omega)
      simp only [E9, List.map_append, List.map_cons, List.map_nil, List.append_assoc] at this ⊢
      exact this
  refine Tot.in0 (g := fun k a _ => Ah_l0 (lv k) k n s e E T 5 (r0 :: l0) tests a) (Tot.step0 (fun k a b => Ah_l0_q (lv k) k n s e E T 5 (r0 :: l0) tests a) ?_)
  have hok : POk d (gi r0 0) (gr r0 1) (gr r0 2) := hsub r0 List.mem_cons_self
  rw [Gv] at hn hE hT
  rw [Ag (x := n + 1) (by omega) (by omega)]
  obtain ⟨b1, b2, b3, b4⟩ := (show MkB (pc d (gr r0 1)) (n + 1) (fr d r0 (n + 1) T.length) from H6 d _ _ _ (n + 1) _ hok)
  refine Tot.t (decide_eq_true (by omega)) (Tot.t (decide_eq_true (by omega)) ?_)
  refine Tot.bind (ih _ _ _ (n + 1) s e E T hok (by omega) (by show n + 1 + 2 * (pc d (gr r0 1) : Int) ≤ _; omega) (by show E.length + 3 * pc d (gr r0 1) ≤ _; omega) (by show T.length + pc d (gr r0 1) ≤ _; omega)) fun x hx => ?_
  subst hx
  refine Tot.bind (G6 _ s e _ _ _ _ 0 0 (by show (E ++ (fr d r0 (n + 1) T.length).E).length ≤ _; rw [List.length_append]; omega)) fun x hx => ?_
  subst hx
  have := loop l0 ⟨(fr d r0 (n + 1) T.length).n, (fr d r0 (n + 1) T.length).E ++ [st4 n (fr d r0 (n + 1) T.length).s 0 0], (fr d r0 (n + 1) T.length).T, [(fr d r0 (n + 1) T.length).e]⟩ 1 (by rw [hal]; simp [Dv]) (by omega) rfl (by show (0 : Int) ≤ (fr d r0 (n + 1) T.length).n; omega) (by show (fr d r0 (n + 1) T.length).n + _ ≤ _; omega) (by show E.length + ((fr d r0 (n + 1) T.length).E ++ [_]).length + _ + 1 ≤ _; rw [List.length_append]; simp only [List.length_cons, List.length_nil]; omega) (by show T.length + (fr d r0 (n + 1) T.length).T.length + _ ≤ _; omega) (by show 1 + l0.length ≤ _; omega)
  simp only [E9, List.map_cons, List.map_nil, ← List.append_assoc] at this ⊢
  exact this
theorem Aaq : ∀ d, RA d := by
  intro d
  induction d with
  | zero => intro op subs tests n s e E T h; exact h.elim
  | succ d ih =>
    intro op subs tests n s e E T hok h0 hn hE hT
    obtain ⟨h1, h7, h45, h6, h77, ht, hl, hz, hsub⟩ := hok
    rw [Sc] at hn hE hT
    refine Ah_up _ _ _ _ _ _ _ _ (Tot.congr ?_ (fun k _ _ => Ah_q (lv k) k n s e E T op subs tests))
    have plain : ∀ kd, op ≠ 4 → op ≠ 5 → op ≠ 6 → (op ≠ 7 → Ha op = kd) → Tot (fun k _ _ => Ah_l1 (lv k) k n s e E T op subs tests kd) (fun r => r = ((mk (d + 1) op subs tests n T.length).n, s, e, E ++ (mk (d + 1) op subs tests n T.length).E, T ++ (mk (d + 1) op subs tests n T.length).T.map nf, (mk (d + 1) op subs tests n T.length).s, (mk (d + 1) op subs tests n T.length).e)) := by
      intro kd a4 a5 a6 hk
      refine Tot.congr ?_ (fun k _ _ => Ah_l1_q (lv k) k n s e E T op subs tests kd)
      rw [Ag (x := n + 2) (by omega) (by omega), Ag (x := n + 1) (by omega) (by omega)]
      refine Tot.cond (fun e7 => ?_) (fun e7 => ?_)
      · have e7 := eq_of_beq e7
        have htl := h77.1 e7
        rw [Rp e7]
        refine Tot.t (D2 Py (by omega)) (Tot.t (decide_eq_true (by omega)) (Tot.t (D2 Py (by omega)) ?_))
        have e1 : tests.map nf = [nf (tests.getD 0 [])] := by
          cases tests with
          | nil => simp at htl
          | cons r l =>
            cases l with
            | nil => rfl
            | cons _ _ => simp at htl
        refine Tot.bind (G6 (n + 2) s e E _ n (n + 1) 3 (T.length : Int) (by omega)) fun x hx => Tot.ret ?_
        subst hx
        rw [e1]
        rfl
      · have e7 := ne_of_beq_false e7
        rw [Rk a4 a5 a6 e7]
        refine Tot.bind (G6 (n + 2) s e E T n (n + 1) kd 0 (by omega)) fun x hx => Tot.ret ?_
        subst hx
        rw [hk e7]
        simp
    refine Tot.cond (fun e4 => ?_) (fun e4 => Tot.cond (fun e5 => ?_) (fun e5 => Tot.cond (fun e6 => ?_) (fun e6 => ?_)))
    · have e4 := eq_of_beq e4
      subst e4
      cases subs with
      | nil => have := h45 (.inl rfl); simp at this
      | cons r0 l0 =>
        cases l0 with
        | nil => have := h45 (.inl rfl); simp at this
        | cons r1 l0 =>
          rw [Rl rfl]
          refine Tot.t (decide_eq_true (by simp only [List.length_cons]; omega)) ?_
          exact Aap ih r0 r1 l0 tests hsub (by simp at hl; omega) n s e E T h0 (by omega) (by omega) (by omega) _ rfl
    · have e5 := eq_of_beq e5
      subst e5
      cases subs with
      | nil => have := h45 (.inr rfl); simp at this
      | cons r0 l0 =>
        rw [Rm rfl]
        exact Aao ih r0 l0 tests hsub (by simp at hl; omega) n s e E T h0 (by omega) (by omega) (by omega) _ rfl
    · have e6 := eq_of_beq e6
      cases subs with
      | nil => have := h6 e6; simp at this
      | cons r0 l0 =>
        have hok : POk d (gi r0 0) (gr r0 1) (gr r0 2) := hsub r0 List.mem_cons_self
        rw [Gv] at hn hE hT
        obtain ⟨b1, b2, b3, b4⟩ := (show MkB (pc d (gr r0 1)) (n + 1) (fr d r0 (n + 1) T.length) from H6 d _ _ _ (n + 1) _ hok)
        rw [Ag (x := n + 1) (by omega) (by omega), Ro e6]
        refine Tot.t (decide_eq_true (by simp only [List.length_cons]; omega)) ?_
        refine Tot.bind (ih _ _ _ (n + 1) s e E T hok (by omega) (by show n + 1 + 2 * (pc d (gr r0 1) : Int) ≤ _; omega) (by show E.length + 3 * pc d (gr r0 1) ≤ _; omega) (by show T.length + pc d (gr r0 1) ≤ _; omega)) fun x hx => ?_
        subst hx
        refine Tot.bind (G6 _ s e _ _ _ _ 0 0 (by show (E ++ (fr d r0 (n + 1) T.length).E).length ≤ _; rw [List.length_append]; omega)) fun x hx => ?_
        subst hx
        refine Tot.bind (G6 _ s e _ _ _ _ 0 0 (by show (E ++ (fr d r0 (n + 1) T.length).E ++ [_]).length ≤ _; simp only [List.length_append, List.length_cons, List.length_nil]; omega)) fun x hx => Tot.ret ?_
        subst hx
        simp only [List.append_assoc]
        rfl
    · have a4 := ne_of_beq_false e4
      have a5 := ne_of_beq_false e5
      have a6 := ne_of_beq_false e6
      refine Tot.cond (fun e2 => ?_) (fun e2 => Tot.cond (fun e3 => plain 2 a4 a5 a6 ?_) (fun e3 => plain 0 a4 a5 a6 ?_))
      · have e2 := eq_of_beq e2
        exact Tot.f (by rw [beq_eq_false_iff_ne]; omega) (plain 1 a4 a5 a6 (by intro _; simp [Ha, e2]))
      · have e3 := eq_of_beq e3
        intro _
        simp [Ha, e3]
      · have e2 := ne_of_beq_false e2
        have e3 := ne_of_beq_false e3
        intro _
        simp [Ha, e2, e3]
theorem Aar (op : Int) (subs tests : LL) (hok : POk 16 op subs tests) (hc : pc 16 subs ≤ 64) : Tot (fun k _ _ => (lv k).Cs op subs tests) (fun r => r = ((mk 16 op subs tests 0 0).n, (mk 16 op subs tests 0 0).s, (mk 16 op subs tests 0 0).e, (mk 16 op subs tests 0 0).E, (mk 16 op subs tests 0 0).T.map nf)) := by
  refine Cs_up _ _ _ (Tot.congr ?_ (fun k _ _ => Cs_q (lv k) k op subs tests))
  refine Tot.bind (Aaq 16 op subs tests 0 0 0 [] [] hok (by omega) (by omega) (by simp; omega) (by simp; omega)) fun x hx => Tot.ret ?_
  subst hx
  simp
def row3 (x : List C) : List C := [C.int .i64 (gi x 0), C.row 25 (gr x 1), C.row 66 (gr x 2)]
def inn : Nat → Bool → List C → LL
  | 0, _, _ => []
  | d + 1, true, a => (gr a 1).flatMap (inn d true) ++ (gr a 2).flatMap (inn d false)
  | d + 1, false, a => (gr a 4).flatMap (inn d false) ++ (gr a 5).flatMap (fun x => inn d true x ++ [row3 x])
structure Cg (x : List C) : Prop where
  ok : ok 16 true x
  sz : ∀ e, sz e true x ≤ 64
  sm : SmR BB x
theorem T0 {n : Int} (h : 0 ≤ n) (h' : n ≤ 1000000) : (Lit.int .i64 n).wf = true := by
  simp only [Lit.wf, Bool.and_eq_true, decide_eq_true_eq]
  have h1 : IntKind.i64.min = -9223372036854775808 := rfl
  have h2 : IntKind.i64.max = 9223372036854775807 := rfl
  omega
theorem Ab2 {x : List C} (hs : SmR BB x) (h0 : 1 ≤ gi x 0) (h1 : gi x 0 ≤ 7) : SmR BB (row3 x) := by
  intro c hc
  simp only [row3, List.mem_cons, List.not_mem_nil, or_false] at hc
  rcases hc with rfl | rfl | rfl
  · exact .int _ _ (T0 (by omega) (by omega))
  · exact .row _ _ (hs.gr 1).1 (hs.gr 1).2
  · exact .row _ _ (hs.gr 2).1 (hs.gr 2).2
theorem Cg.row3 {x : List C} (h : Cg x) : Cg (row3 x) := ⟨h.ok, fun e => by
  cases e with
  | zero => exact h.sz 0
  | succ e => exact h.sz (e + 1), Ab2 h.sm h.ok.1 h.ok.2.1⟩
theorem Cg.pok {x : List C} (h : Cg x) : POk 16 (gi x 0) (gr x 1) (gr x 2) := Ze h.ok
theorem Cg.pc {x : List C} (h : Cg x) : pc 16 (gr x 1) ≤ 64 := Nat.le_trans (Z4 16 x) (h.sz 16)
theorem Za : ∀ {d : Nat} {k : Bool} {a : List C}, ok d k a → ok (d + 1) k a := by
  intro d
  induction d with
  | zero => intro k a h; exact h.elim
  | succ d ih =>
    intro k a h
    cases k with
    | true =>
      obtain ⟨h1, h2, h3, h4, h5, h6, h7, h8, h9, h10⟩ := h
      exact ⟨h1, h2, h3, h4, h5, h6, h7, h8, fun i hi => ih (h9 i hi), fun i hi => ih (h10 i hi)⟩
    | false =>
      obtain ⟨h1, h2, h3, h4, h5, h6, h7, h8, h9, h10⟩ := h
      exact ⟨h1, h2, h3, h4, h5, h6, h7, h8, fun i hi => ih (h9 i hi), fun i hi => ih (h10 i hi)⟩
theorem N3 {d e : Nat} (h : d ≤ e) {k : Bool} {a : List C} (ha : ok d k a) : ok e k a := by
  induction h with
  | refl => exact ha
  | step _ ih => exact Za ih
theorem L1 {l : LL} {f g : List C → LL} (h : ∀ i, i < l.length → f (l.getD i []) = g (l.getD i [])) : l.flatMap f = l.flatMap g := by
  induction l with
  | nil => rfl
  | cons x l ih =>
    rw [List.flatMap_cons, List.flatMap_cons, show f x = g x from h 0 (by simp), ih fun i hi => h (i + 1) (by simp; omega)]
theorem Xn : ∀ {d : Nat} {k : Bool} {a : List C}, ok d k a → inn (d + 1) k a = inn d k a := by
  intro d
  induction d with
  | zero => intro k a h; exact h.elim
  | succ d ih =>
    intro k a h
    cases k with
    | true =>
      obtain ⟨_, _, _, _, _, _, _, _, h9, h10⟩ := h
      show (gr a 1).flatMap (inn (d + 1) true) ++ (gr a 2).flatMap (inn (d + 1) false) = _
      rw [L1 (f := inn (d + 1) true) (g := inn d true) fun i hi => ih (h9 i hi), L1 (f := inn (d + 1) false) (g := inn d false) fun i hi => ih (h10 i hi)]
      rfl
    | false =>
      obtain ⟨_, _, _, _, _, _, _, _, h9, h10⟩ := h
      show (gr a 4).flatMap (inn (d + 1) false) ++ (gr a 5).flatMap (fun x => inn (d + 1) true x ++ [row3 x]) = _
      rw [L1 (f := inn (d + 1) false) (g := inn d false) fun i hi => ih (h9 i hi), L1 (f := fun x => inn (d + 1) true x ++ [row3 x]) (g := fun x => inn d true x ++ [row3 x]) fun i hi => by rw [ih (h10 i hi)]]
      rfl
theorem Xm {d e : Nat} (h : d ≤ e) {k : Bool} {a : List C} (ha : ok d k a) : inn e k a = inn d k a := by
  induction h with
  | refl => rfl
  | step h ih => rw [Xn (N3 h ha), ih]
theorem To {l : LL} {f : List C → Nat} {i : Nat} (hi : i < l.length) : f (l.getD i []) ≤ (l.map f).sum := by
  induction l generalizing i with
  | nil => simp at hi
  | cons x l ih =>
    cases i with
    | zero => simp
    | succ i => have := ih (i := i) (by simpa using hi); simp at this ⊢; omega
theorem Xl : ∀ {d : Nat}, d ≤ 16 → ∀ {k : Bool} {a : List C}, ok d k a → (∀ e, sz e k a ≤ 64) → SmR BB a → ∀ x, x ∈ inn d k a → Cg x := by
  intro d
  induction d with
  | zero => intro _ k a h; exact h.elim
  | succ d ih =>
    intro hd k a h hz hs x hx
    have ih := @ih (by omega)
    have sub : ∀ (j : Nat) (k' : Bool) (g : Nat → Nat), (∀ e, sz (e + 1) k a = 1 + ((gr a (g 1)).map (sz e (if g 1 = j then k' else !k'))).sum + ((gr a (g 2)).map (sz e (if g 1 = j then !k' else k'))).sum) → (j = g 1 ∨ j = g 2 ∧ g 1 ≠ j) → ∀ i, i < (gr a j).length → ∀ e, sz e k' ((gr a j).getD i []) ≤ 64 := by
      intro j k' g hg hj i hi e
      have h1 := hz (e + 1)
      rw [hg e] at h1
      have h2 := To (f := sz e k') hi
      rcases hj with rfl | ⟨rfl, hj⟩
      · rw [if_pos rfl, if_pos rfl] at h1; omega
      · rw [if_neg hj, if_neg hj] at h1; omega
    cases k with
    | true =>
      obtain ⟨_, _, _, _, _, _, _, _, h9, h10⟩ := h
      rcases List.mem_append.1 hx with hx | hx
      · obtain ⟨y, hy, hxy⟩ := List.mem_flatMap.1 hx
        obtain ⟨i, hi, rfl⟩ := Ge hy
        exact ih (h9 i hi) (sub 1 true id (fun e => rfl) (.inl rfl) i hi) ((hs.gr 1).get i) x hxy
      · obtain ⟨y, hy, hxy⟩ := List.mem_flatMap.1 hx
        obtain ⟨i, hi, rfl⟩ := Ge hy
        exact ih (h10 i hi) (sub 2 false id (fun e => rfl) (.inr ⟨rfl, by decide⟩) i hi) ((hs.gr 2).get i) x hxy
    | false =>
      obtain ⟨_, _, _, _, _, _, _, _, h9, h10⟩ := h
      rcases List.mem_append.1 hx with hx | hx
      · obtain ⟨y, hy, hxy⟩ := List.mem_flatMap.1 hx
        obtain ⟨i, hi, rfl⟩ := Ge hy
        exact ih (h9 i hi) (sub 4 false (· + 3) (fun e => rfl) (.inl rfl) i hi) ((hs.gr 4).get i) x hxy
      · obtain ⟨y, hy, hxy⟩ := List.mem_flatMap.1 hx
        obtain ⟨i, hi, rfl⟩ := Ge hy
        have hz5 := sub 5 true (· + 3) (fun e => rfl) (.inr ⟨rfl, by decide⟩) i hi
        rcases List.mem_append.1 hxy with hxy | hxy
        · exact ih (h10 i hi) hz5 ((hs.gr 5).get i) x hxy
        · rw [List.mem_singleton.1 hxy]
          exact Cg.row3 ⟨N3 (by omega) (h10 i hi), hz5, (hs.gr 5).get i⟩
theorem Ma {l : LL} {f : List C → LL} {g : List C → Nat} (h : ∀ x, x ∈ l → (f x).length ≤ g x) : (l.flatMap f).length ≤ (l.map g).sum := by
  induction l with
  | nil => simp
  | cons x l ih =>
    rw [List.flatMap_cons, List.length_append, List.map_cons, List.sum_cons]
    have h1 := h x List.mem_cons_self
    have h2 := ih fun y hy => h y (List.mem_cons_of_mem _ hy)
    omega
theorem Q3 : ∀ (d : Nat) (k : Bool) (a : List C), (inn d k a).length + 1 ≤ sz d k a := by
  intro d
  induction d with
  | zero => intro k a; cases k <;> exact Nat.le_refl _
  | succ d ih =>
    intro k a
    cases k with
    | true =>
      have h1 := Ma (l := gr a 1) (f := inn d true) (g := sz d true) fun x _ => by have := ih true x; omega
      have h2 := Ma (l := gr a 2) (f := inn d false) (g := sz d false) fun x _ => by have := ih false x; omega
      simp only [inn, List.length_append, sz]
      omega
    | false =>
      have h1 := Ma (l := gr a 4) (f := inn d false) (g := sz d false) fun x _ => by have := ih false x; omega
      have h2 := Ma (l := gr a 5) (f := fun x => inn d true x ++ [row3 x]) (g := sz d true) fun x _ => by have := ih true x; simp; omega
      simp only [inn, List.length_append, sz]
      omega
open Classical in
noncomputable def Eo (D : LL) (x : List C) : LL := if ∃ z, z ∈ D ∧ Ck true z x then D else D ++ [row3 x]
theorem O4 {D : LL} {x : List C} (h : ∃ z, z ∈ D ∧ Ck true z x) : Eo D x = D := by unfold Eo; rw [if_pos h]
theorem M1 {D : LL} {x : List C} (h : ¬ ∃ z, z ∈ D ∧ Ck true z x) : Eo D x = D ++ [row3 x] := by unfold Eo; rw [if_neg h]
theorem al3 (x : List C) : Ck true (row3 x) x := .path rfl rfl rfl (fun i _ => Ck.refl _ _) (fun i _ => Ck.refl _ _)
def Cl (l : LL) : Prop := ∀ i, i < l.length → ∀ y, y ∈ inn 16 true (l.getD i []) → y ∈ l.take i
theorem Ik {l m : LL} {i : Nat} : (l ++ m).getD i [] = if i < l.length then l.getD i [] else m.getD (i - l.length) [] := by
  rw [List.getD_eq_getElem?_getD, List.getElem?_append]
  split
  · rw [List.getD_eq_getElem?_getD]
  · rw [List.getD_eq_getElem?_getD]
theorem Cl.app {l m : LL} (hl : Cl l) (hm : Cl m) : Cl (l ++ m) := by
  intro i hi y hy
  rw [Ik] at hy
  rw [List.take_append]
  split at hy
  · rename_i h
    exact List.mem_append_left _ (hl i h y hy)
  · rename_i h
    rw [List.length_append] at hi
    exact List.mem_append_right _ (hm _ (by omega) y hy)
theorem Cl.flat {l : LL} {f : List C → LL} (h : ∀ i, i < l.length → Cl (f (l.getD i []))) : Cl (l.flatMap f) := by
  induction l with
  | nil => intro i hi; simp at hi
  | cons x l ih =>
    rw [List.flatMap_cons]
    exact Cl.app (h 0 (by simp)) (ih fun i hi => h (i + 1) (by simp; omega))
theorem Q2 : ∀ {d : Nat}, d ≤ 16 → ∀ {k : Bool} {a : List C}, ok d k a → Cl (inn d k a) := by
  intro d
  induction d with
  | zero => intro _ k a h; exact h.elim
  | succ d ih =>
    intro hd k a h
    have ih := @ih (by omega)
    cases k with
    | true =>
      obtain ⟨_, _, _, _, _, _, _, _, h9, h10⟩ := h
      exact Cl.app (Cl.flat fun i hi => ih (h9 i hi)) (Cl.flat fun i hi => ih (h10 i hi))
    | false =>
      obtain ⟨_, _, _, _, _, _, _, _, h9, h10⟩ := h
      refine Cl.app (Cl.flat fun i hi => ih (h9 i hi)) (Cl.flat fun i hi => ?_)
      intro j hj y hy
      rw [List.length_append, List.length_singleton] at hj
      rw [Ik] at hy
      split at hy
      · rename_i hlt
        rw [List.take_append_of_le_length (by omega)]
        exact ih (h10 i hi) j hlt y hy
      · rename_i hge
        have e : j = (inn d true ((gr a 5).getD i [])).length := by omega
        rw [show j - (inn d true ((gr a 5).getD i [])).length = 0 by omega] at hy
        have hy : y ∈ inn 16 true ((gr a 5).getD i []) := hy
        rw [Xm (show d ≤ 16 by omega) (h10 i hi)] at hy
        rw [List.take_append_of_le_length (by omega), e, List.take_length]
        exact hy
structure Ded (l D : LL) : Prop where
  al : ∀ y, y ∈ l → ∃ z, z ∈ D ∧ Ck true z y
  dif : ∀ i j, i < j → j < D.length → ¬ Ck true (D.getD i []) (D.getD j [])
  ahead : ∀ i, i < D.length → ∀ y, y ∈ inn 16 true (D.getD i []) → ∃ n, n < i ∧ Ck true (D.getD n []) y
  len : D.length ≤ l.length
  good : ∀ x, x ∈ D → Cg x
theorem P4 {l : LL} (hl : Cl l) (hg : ∀ x, x ∈ l → Cg x) : ∀ n, n ≤ l.length → Ded (l.take n) ((l.take n).foldl Eo []) := by
  intro n
  induction n with
  | zero => intro _; exact ⟨fun y h => (by cases h), fun i j h h' => (by cases h'), fun i h => (by cases h), Nat.le_refl _, fun x h => (by cases h)⟩
  | succ n ih =>
    intro hn
    have D := ih (by omega)
    have e : l.take (n + 1) = l.take n ++ [l.getD n []] := by
      rw [List.take_add_one, List.getElem?_eq_getElem (by omega), List.getD_eq_getElem?_getD, List.getElem?_eq_getElem (by omega)]
      rfl
    rw [e, List.foldl_append]
    show Ded _ (Eo ((l.take n).foldl Eo []) (l.getD n []))
    generalize (l.take n).foldl Eo [] = d at D
    by_cases hx : ∃ z, z ∈ d ∧ Ck true z (l.getD n [])
    · rw [O4 hx]
      refine ⟨fun y hy => ?_, D.dif, D.ahead, by have := D.len; rw [List.length_append]; omega, D.good⟩
      rcases List.mem_append.1 hy with hy | hy
      · exact D.al y hy
      · rw [List.mem_singleton.1 hy]; exact hx
    · rw [M1 hx]
      have hlen : (d ++ [row3 (l.getD n [])]).length = d.length + 1 := by simp
      have hmem : l.getD n [] ∈ l := D1 (by omega)
      refine ⟨fun y hy => ?_, fun i j hij hj => ?_, fun i hi y hy => ?_, by have := D.len; rw [hlen, List.length_append]; simp only [List.length_singleton]; omega, fun x hx2 => ?_⟩
      · rcases List.mem_append.1 hy with hy | hy
        · obtain ⟨z, h1, h2⟩ := D.al y hy
          exact ⟨z, List.mem_append_left _ h1, h2⟩
        · rw [List.mem_singleton.1 hy]
          exact ⟨_, List.mem_append_right _ (List.mem_singleton.2 rfl), al3 _⟩
      · rw [hlen] at hj
        rw [Ik, Ik, if_pos (show i < d.length by omega)]
        split
        · rename_i h; exact D.dif i j hij h
        · rename_i h
          rw [show j - d.length = 0 by omega]
          intro ha
          exact hx ⟨_, D1 (show i < d.length by omega), ha.trans (al3 _)⟩
      · rw [hlen] at hi
        rw [Ik] at hy
        split at hy
        · rename_i h
          obtain ⟨m, h1, h2⟩ := D.ahead i h y hy
          exact ⟨m, h1, by rw [Ik, if_pos (show m < d.length by omega)]; exact h2⟩
        · rename_i h
          rw [show i - d.length = 0 by omega] at hy
          have hy : y ∈ inn 16 true (l.getD n []) := hy
          obtain ⟨z, h1, h2⟩ := D.al y (hl n (by omega) y hy)
          obtain ⟨m, h3, rfl⟩ := Ge h1
          exact ⟨m, by omega, by rw [Ik, if_pos h3]; exact h2⟩
      · rcases List.mem_append.1 hx2 with h | h
        · exact D.good x h
        · rw [List.mem_singleton.1 h]; exact (hg _ hmem).row3
theorem V8 {l : LL} (hl : Cl l) (hg : ∀ x, x ∈ l → Cg x) : Ded l (l.foldl Eo []) := by
  have := P4 hl hg l.length (Nat.le_refl _)
  rwa [List.take_length] at this
theorem H2 {l : LL} {f : List C → LL} {i : Nat} (h : i < l.length) : (l.take (i + 1)).flatMap f = (l.take i).flatMap f ++ f (l.getD i []) := by
  rw [List.take_add_one, List.getElem?_eq_getElem h, List.getD_eq_getElem?_getD, List.getElem?_eq_getElem h, List.flatMap_append]
  simp
theorem Gb : Try.prog.bytesOf 25 ≤ 1024 := of_decide_eq_true (by kernel_rfl)
theorem Vr : Try.prog.bytesOf 39 ≤ 1024 := of_decide_eq_true (by kernel_rfl)
theorem Qu {D : LL} (h : ∀ x, x ∈ D → Cg x) (i : Nat) : SmR BB (D.getD i []) := by
  rw [List.getD_eq_getElem?_getD]
  cases hi : D[i]? with
  | none => intro x hx; cases hx
  | some r => exact (h r (List.mem_of_getElem? hi)).sm
theorem Acl {l : LL} {f : List C → LL} {i : Nat} : ((l.take i).flatMap f).length ≤ (l.flatMap f).length := by
  have := List.take_append_drop i l
  have h : (l.flatMap f).length = ((l.take i).flatMap f).length + ((l.drop i).flatMap f).length := by
    rw [← List.length_append, ← List.flatMap_append, this]
  omega
theorem J2 {l : LL} {f : List C → LL} {i : Nat} (hi : i < l.length) : ((l.take i).flatMap f).length + (f (l.getD i [])).length ≤ (l.flatMap f).length := by
  have := Acl (l := l) (f := f) (i := i + 1)
  rw [H2 hi, List.length_append] at this
  exact this
theorem Ib {a : List C} {k : Bool} (hz : ∀ e, sz e k a ≤ 64) (j : Nat) (k' : Bool) (hj : (k, j, k') = (true, 1, true) ∨ (k, j, k') = (true, 2, false) ∨ (k, j, k') = (false, 4, false) ∨ (k, j, k') = (false, 5, true)) {i : Nat} (hi : i < (gr a j).length) : ∀ e, sz e k' ((gr a j).getD i []) ≤ 64 := by
  intro e
  have h1 := hz (e + 1)
  have h2 := To (f := sz e k') hi
  rcases hj with hj | hj | hj | hj <;> cases hj <;> simp only [sz] at h1 <;> omega
theorem Va (m : Nat) : (lv (m + 40)).Dn = some true := by kernel_rfl
theorem Pi : Tot (fun n _ _ => (lv n).Dn) (fun r => r = true) := ⟨true, rfl, 40, fun n a b hn _ _ => by
  obtain ⟨m, rfl⟩ : ∃ m, n = m + 40 := ⟨n - 40, by omega⟩
  exact Va m⟩
noncomputable def Bo (x : List C) : Mk := mk 16 (gi x 0) (gr x 1) (gr x 2) 0 0
noncomputable def nst (x : List C) : Int := (Bo x).n
noncomputable def Cu (x : List C) : List C := [C.int .i64 (Bo x).n, C.int .i64 (Bo x).s, C.int .i64 (Bo x).e, C.row 83 (Bo x).E, C.row 66 ((Bo x).T.map nf)]
noncomputable def B1 : LL → Int
  | [] => 0
  | x :: l => nst x + B1 l
noncomputable def Ca : Int → LL → LL
  | _, [] => []
  | s, x :: l => [C.int .i64 s] :: Ca (s + nst x) l
theorem J1 (l m : LL) : B1 (l ++ m) = B1 l + B1 m := by
  induction l with
  | nil => simp [B1]
  | cons x l ih => simp only [List.cons_append, B1, ih]; omega
theorem Vk (l m : LL) : ∀ s, Ca s (l ++ m) = Ca s l ++ Ca (s + B1 l) m := by
  induction l with
  | nil => intro s; simp [Ca, B1]
  | cons x l ih => intro s; simp only [List.cons_append, Ca, B1, ih]; rw [show s + nst x + B1 l = s + (nst x + B1 l) by omega]
theorem M8 (l : LL) : ∀ s, (Ca s l).length = l.length := by
  induction l with
  | nil => intro s; rfl
  | cons x l ih => intro s; simp [Ca, ih]
theorem Pk (l : LL) : ∀ (s : Int) (i : Nat), i < l.length → (Ca s l).getD i [] = [C.int .i64 (s + B1 (l.take i))] := by
  induction l with
  | nil => intro s i h; simp at h
  | cons x l ih =>
    intro s i h
    cases i with
    | zero => simp [Ca, B1]
    | succ i =>
      have := ih (s + nst x) i (by simpa using h)
      simp only [Ca, List.getD_cons_succ, List.take_succ_cons, B1]
      rw [this, show s + nst x + B1 (l.take i) = s + (nst x + B1 (l.take i)) by omega]
theorem Cg.nst {x : List C} (h : Cg x) : 0 ≤ nst x ∧ nst x ≤ 128 := by
  have h1 := H6 16 _ _ _ 0 0 h.pok
  have h2 := h.pc
  have h3 := h1.lo
  have h4 := h1.hi
  unfold Go.Vm.T.nst Bo
  omega
theorem Gk {l : LL} (h : ∀ x, x ∈ l → Cg x) : 0 ≤ B1 l ∧ B1 l ≤ 128 * l.length := by
  induction l with
  | nil => simp [B1]
  | cons x l ih =>
    have h1 := (h x List.mem_cons_self).nst
    have h2 := ih fun y hy => h y (List.mem_cons_of_mem _ hy)
    simp only [B1, List.length_cons]
    omega
theorem I1 {l : LL} {i : Nat} (h : i < l.length) : l.take (i + 1) = l.take i ++ [l.getD i []] := by
  rw [List.take_add_one, List.getElem?_eq_getElem h, List.getD_eq_getElem?_getD, List.getElem?_eq_getElem h]
  rfl
theorem Mb {l : LL} (h : ∀ x, x ∈ l → Cg x) (i : Nat) : ∀ x, x ∈ l.take i → Cg x := fun x hx => h x (List.mem_of_mem_take hx)
noncomputable def DD (p : List C) : LL := (inn 16 true p).foldl Eo []
theorem Cg.inn {p : List C} (h : Cg p) : ∀ x, x ∈ inn 16 true p → Cg x := Xl (by omega) h.ok h.sz h.sm
theorem Cg.len {p : List C} (h : Cg p) : (Go.Vm.T.inn 16 true p).length ≤ 63 := by
  have := Q3 16 true p
  have := h.sz 16
  omega
theorem Cg.ded {p : List C} (h : Cg p) : Ded (Go.Vm.T.inn 16 true p) (DD p) := V8 (Q2 (by omega) h.ok) h.inn
theorem N6 {x : List C} (h : Cg x) : Tot (fun k _ _ => (lv k).Cs (gi x 0) (gr x 1) (gr x 2)) (fun r => r = ((Bo x).n, (Bo x).s, (Bo x).e, (Bo x).E, (Bo x).T.map nf)) := Aar _ _ _ h.pok h.pc
theorem N7 (D B C' : LL) (n s e : Int) (E T : LL) (x : List C) (hD : ∀ y, y ∈ D → Cg y) (hl : D.length ≤ 1000000) (hx : SmR BB x) : Tot (fun k _ _ => (lv k).Bs D B C' n s e E T (gi x 0) (gr x 1) (gr x 2)) (Fst D.length (fun j => Ck true (D.getD j []) x)) := by
  refine Bs_up _ _ _ _ _ _ _ _ _ _ _ (Tot.congr ?_ (fun k _ _ => Bs_q (lv k) k D B C' n s e E T (gi x 0) (gr x 1) (gr x 2)))
  refine Tot.in0 (Tot.first (H := fun k p q v => Bs_l0 (lv k) k D B C' n s e E T (gi x 0) (gr x 1) (gr x 2) p v) (n := D.length) (by omega) ?_ (fun i Q hi hy hn => ?_))
  · refine Tot.step0 (fun k p_ q_ => Bs_l0_q (lv k) k D B C' n s e E T (gi x 0) (gr x 1) (gr x 2) p_ _) ?_
    exact Tot.f (decide_eq_false (by omega)) (Tot.ret rfl)
  · refine Tot.step0 (fun k p_ q_ => Bs_l0_q (lv k) k D B C' n s e E T (gi x 0) (gr x 1) (gr x 2) p_ _) ?_
    rw [Int.toNat_natCast]
    repeat (refine Tot.t (decide_eq_true (by omega)) ?_)
    exact Tot.bind (Abf (D.getD i []) x (Qu hD i) hx) fun r hr => Tot.cond (fun h => Tot.ret (hy (hr.1 h))) (fun h => hn (fun ha => by rw [hr.2 ha] at h; cases h))
theorem Z5 (D B C' : LL) (n s e : Int) (E T : LL) (x : List C) (hD : ∀ y, y ∈ D → Cg y) (hl : D.length ≤ 1000000) (hx : SmR BB x) : Tot (fun k _ _ => (lv k).Dd D B C' n s e E T (gi x 0) (gr x 1) (gr x 2)) (Fst D.length (fun j => Ck true (D.getD j []) x)) := by
  refine Dd_up _ _ _ _ _ _ _ _ _ _ _ (Tot.congr ?_ (fun k _ _ => Dd_q (lv k) k D B C' n s e E T (gi x 0) (gr x 1) (gr x 2)))
  refine Tot.bind (R := Fst D.length (fun j => Ck true (D.getD j []) x)) ?_ fun r hr => Tot.ret hr
  refine B9_up _ _ _ _ (Tot.congr ?_ (fun k _ _ => B9_q (lv k) k D (gi x 0) (gr x 1) (gr x 2)))
  refine Tot.in0 (Tot.first (H := fun k p q v => B9_l0 (lv k) k D (gi x 0) (gr x 1) (gr x 2) p v) (n := D.length) (by omega) ?_ (fun i Q hi hy hn => ?_))
  · refine Tot.step0 (fun k p_ q_ => B9_l0_q (lv k) k D (gi x 0) (gr x 1) (gr x 2) p_ _) ?_
    exact Tot.f (decide_eq_false (by omega)) (Tot.ret rfl)
  · refine Tot.step0 (fun k p_ q_ => B9_l0_q (lv k) k D (gi x 0) (gr x 1) (gr x 2) p_ _) ?_
    rw [Int.toNat_natCast]
    repeat (refine Tot.t (decide_eq_true (by omega)) ?_)
    refine Tot.bind (R := AlQ true (D.getD i []) x) ?_ fun r hr => Tot.cond (fun h => Tot.ret (hy (hr.1 h))) (fun h => hn (fun ha => by rw [hr.2 ha] at h; cases h))
    refine Dl_up _ _ _ _ _ _ (Tot.congr ?_ (fun k _ _ => Dl_q (lv k) k (gi (D.getD i []) 0) (gr (D.getD i []) 1) (gr (D.getD i []) 2) (gi x 0) (gr x 1) (gr x 2)))
    exact Tot.bind (Aab (D.getD i []) x (Qu hD i) hx) fun r hr => Tot.ret hr
def RI (k : Bool) (a : List C) (d : Nat) : Prop := match k with
  | true => Tot (fun k _ _ => (lv k).Ar (gi a 0) (gr a 1) (gr a 2)) (fun r => r = inn d true a)
  | false => Tot (fun k _ _ => (lv k).Bc (gi a 0) (gs a 1) (gs a 2) (gs a 3) (gr a 4) (gr a 5)) (fun r => r = inn d false a)
theorem Aa8 : ∀ d, d ≤ 16 → ∀ (k : Bool) (a : List C), ok d k a → (∀ e, sz e k a ≤ 64) → SmR BB a → RI k a d := by
  intro d
  induction d with
  | zero => intro _ k a h; exact h.elim
  | succ d ih =>
    intro hd k a ha hz hs
    have ih := @ih (by omega)
    have hlen := Q3 (d + 1) k a
    have hz' := hz (d + 1)
    have ha' := ha
    cases k with
    | true =>
      obtain ⟨_, _, _, _, _, _, _, _, h9, h10⟩ := ha'
      have e0 : inn (d + 1) true a = (gr a 1).flatMap (inn d true) ++ (gr a 2).flatMap (inn d false) := rfl
      show Tot _ _
      rw [e0] at hlen ⊢
      rw [List.length_append] at hlen
      have hl1 : (gr a 1).length ≤ 1048576 := (hs.gr 1).1
      have hl2 : (gr a 2).length ≤ 1048576 := (hs.gr 2).1
      refine Ar_up _ _ _ (Tot.congr ?_ (fun k _ _ => Ar_q (lv k) k (gi a 0) (gr a 1) (gr a 2)))
      have l3 : ∀ (i : Nat) s, i ≤ (gr a 2).length → s = (gr a 1).flatMap (inn d true) ++ ((gr a 2).take i).flatMap (inn d false) → Tot (fun k p q => Ar_l3 (lv k) k (gi a 0) (gr a 1) (gr a 2) p (i : Int) s) (fun r => r = (gr a 1).flatMap (inn d true) ++ (gr a 2).flatMap (inn d false)) := fun i s hi hs' =>
        Tot.loop (H := fun k p q v s => Ar_l3 (lv k) k (gi a 0) (gr a 1) (gr a 2) p v s) (n := (gr a 2).length) (fun i s => s = (gr a 1).flatMap (inn d true) ++ ((gr a 2).take i).flatMap (inn d false)) (by omega) (fun s hs' => by
          subst hs'
          refine Tot.step0 (fun k p_ q_ => Ar_l3_q (lv k) k (gi a 0) (gr a 1) (gr a 2) p_ _ _) ?_
          rw [List.take_length]
          exact Tot.f (decide_eq_false (by omega)) (Tot.ret rfl)) (fun i s hi hs' next => by
          subst hs'
          refine Tot.step0 (fun k p_ q_ => Ar_l3_q (lv k) k (gi a 0) (gr a 1) (gr a 2) p_ _ _) ?_
          rw [Int.toNat_natCast]
          repeat (refine Tot.t (decide_eq_true (by omega)) ?_)
          have q3 := J2 (f := inn d false) hi
          refine Tot.bind (ih false _ (h10 i hi) (Ib hz 2 false (by simp) hi) ((hs.gr 2).get i)) fun r hr => ?_
          subst hr
          exact Tot.t (D2 Gb (by rw [List.length_append]; omega)) (next _ (by rw [H2 hi, List.append_assoc]))) _ i s rfl hi hs'
      have l2 : ∀ (i : Nat) s, i ≤ (gr a 1).length → s = ((gr a 1).take i).flatMap (inn d true) → Tot (fun k p q => Ar_l2 (lv k) k (gi a 0) (gr a 1) (gr a 2) p (i : Int) s) (fun r => r = (gr a 1).flatMap (inn d true) ++ (gr a 2).flatMap (inn d false)) := fun i s hi hs' =>
        Tot.loop (H := fun k p q v s => Ar_l2 (lv k) k (gi a 0) (gr a 1) (gr a 2) p v s) (n := (gr a 1).length) (fun i s => s = ((gr a 1).take i).flatMap (inn d true)) (by omega) (fun s hs' => by
          subst hs'
          refine Tot.step0 (fun k p_ q_ => Ar_l2_q (lv k) k (gi a 0) (gr a 1) (gr a 2) p_ _ _) ?_
          rw [List.take_length]
          exact Tot.f (decide_eq_false (by omega)) (Tot.in0 (l3 0 _ (by omega) (by simp)))) (fun i s hi hs' next => by
          subst hs'
          refine Tot.step0 (fun k p_ q_ => Ar_l2_q (lv k) k (gi a 0) (gr a 1) (gr a 2) p_ _ _) ?_
          rw [Int.toNat_natCast]
          repeat (refine Tot.t (decide_eq_true (by omega)) ?_)
          have q3 := J2 (f := inn d true) hi
          refine Tot.bind (ih true _ (h9 i hi) (Ib hz 1 true (by simp) hi) ((hs.gr 1).get i)) fun r hr => ?_
          subst hr
          exact Tot.t (D2 Gb (by omega)) (next _ (by rw [H2 hi]))) _ i s rfl hi hs'
      refine Tot.in0 (g := fun k p_ q_ => Ar_l0 (lv k) k (gi a 0) (gr a 1) (gr a 2) p_ ) ?_
      refine Tot.step0 (fun k p_ q_ => Ar_l0_q (lv k) k (gi a 0) (gr a 1) (gr a 2) p_ ) ?_
      refine Tot.cond (fun h0 => ?_) (fun h0 => ?_)
      · have h0 := of_decide_eq_true h0
        refine Tot.t (decide_eq_true (by omega)) (Tot.bind (ih true _ (h9 0 (by omega)) (Ib hz 1 true (by simp) (show 0 < (gr a 1).length by omega)) ((hs.gr 1).get 0)) fun r hr => ?_)
        subst hr
        have q3 := J2 (f := inn d true) (show 0 < (gr a 1).length by omega)
        refine Tot.t (D2 Gb (by omega)) (l2 1 _ (by omega) ?_)
        rw [H2 (show 0 < (gr a 1).length by omega)]
        simp
      · have h0 := of_decide_eq_false h0
        have e1 : gr a 1 = [] := List.length_eq_zero_iff.1 (by omega)
        refine Tot.in0 (g := fun k p_ q_ => Ar_l1 (lv k) k (gi a 0) (gr a 1) (gr a 2) p_ ) ?_
        refine Tot.step0 (fun k p_ q_ => Ar_l1_q (lv k) k (gi a 0) (gr a 1) (gr a 2) p_ ) ?_
        refine Tot.cond (fun h0 => ?_) (fun h0 => ?_)
        · have h0 := of_decide_eq_true h0
          refine Tot.t (decide_eq_true (by omega)) (Tot.bind (ih false _ (h10 0 (by omega)) (Ib hz 2 false (by simp) (show 0 < (gr a 2).length by omega)) ((hs.gr 2).get 0)) fun r hr => ?_)
          subst hr
          have q3 := J2 (f := inn d false) (show 0 < (gr a 2).length by omega)
          refine Tot.t (D2 Gb (by omega)) (l3 1 _ (by omega) ?_)
          rw [H2 (show 0 < (gr a 2).length by omega)]
          simp [e1]
        · have h0 := of_decide_eq_false h0
          have e2 : gr a 2 = [] := List.length_eq_zero_iff.1 (by omega)
          exact Tot.ret (by simp [e1, e2])
    | false =>
      obtain ⟨_, _, _, _, _, _, h7, h8, h9, h10⟩ := ha'
      have e0 : inn (d + 1) false a = (gr a 4).flatMap (inn d false) ++ (gr a 5).flatMap (fun x => inn d true x ++ [row3 x]) := rfl
      show Tot _ _
      rw [e0] at hlen ⊢
      rw [List.length_append] at hlen
      have hl1 : (gr a 4).length ≤ 1048576 := (hs.gr 4).1
      have hl2 : (gr a 5).length ≤ 1048576 := (hs.gr 5).1
      have e5 : ∀ h : 0 < (gr a 5).length, (gr a 5).flatMap (fun x => inn d true x ++ [row3 x]) = inn d true ((gr a 5).getD 0 []) ++ [row3 ((gr a 5).getD 0 [])] := fun h => by
        have := H2 (f := fun x => inn d true x ++ [row3 x]) h
        rw [List.take_of_length_le (by omega)] at this
        simpa using this
      refine Bc_up _ _ _ _ _ _ (Tot.congr ?_ (fun k _ _ => Bc_q (lv k) k (gi a 0) (gs a 1) (gs a 2) (gs a 3) (gr a 4) (gr a 5)))
      have l1 : ∀ (i : Nat) s, i ≤ (gr a 4).length → s = ((gr a 4).take i).flatMap (inn d false) → Tot (fun k p q => Bc_l1 (lv k) k (gi a 0) (gs a 1) (gs a 2) (gs a 3) (gr a 4) (gr a 5) p (i : Int) s) (fun r => r = (gr a 4).flatMap (inn d false) ++ (gr a 5).flatMap (fun x => inn d true x ++ [row3 x])) := fun i s hi hs' =>
        Tot.loop (H := fun k p q v s => Bc_l1 (lv k) k (gi a 0) (gs a 1) (gs a 2) (gs a 3) (gr a 4) (gr a 5) p v s) (n := (gr a 4).length) (fun i s => s = ((gr a 4).take i).flatMap (inn d false)) (by omega) (fun s hs' => by
          subst hs'
          refine Tot.step0 (fun k p_ q_ => Bc_l1_q (lv k) k (gi a 0) (gs a 1) (gs a 2) (gs a 3) (gr a 4) (gr a 5) p_ _ _) ?_
          rw [List.take_length]
          refine Tot.f (decide_eq_false (by omega)) (Tot.cond (fun h11 => ?_) (fun h11 => Tot.ret ?_))
          · have h11 := h7.1 (eq_of_beq h11)
            have h05 : 0 < (gr a 5).length := by omega
            rw [e5 h05] at hlen ⊢
            rw [List.length_append, List.length_singleton] at hlen
            refine Tot.t (decide_eq_true (by omega)) (Tot.bind (ih true _ (h10 0 h05) (Ib hz 5 true (by simp) h05) ((hs.gr 5).get 0)) fun r hr => ?_)
            subst hr
            refine Tot.t (D2 Gb (by omega)) (Tot.t (decide_eq_true (by omega)) (Tot.t (D2 Gb (by rw [List.length_append]; omega)) (Tot.ret ?_)))
            rw [List.append_assoc]
            rfl
          · have h11 : gi a 0 ≠ 11 := by simpa using h11
            have e2 : gr a 5 = [] := List.length_eq_zero_iff.1 (by
              rcases Nat.lt_or_ge 0 (gr a 5).length with h | h
              · exact absurd (h7.2 (by omega)) h11
              · omega)
            simp [e2]) (fun i s hi hs' next => by
          subst hs'
          refine Tot.step0 (fun k p_ q_ => Bc_l1_q (lv k) k (gi a 0) (gs a 1) (gs a 2) (gs a 3) (gr a 4) (gr a 5) p_ _ _) ?_
          rw [Int.toNat_natCast]
          repeat (refine Tot.t (decide_eq_true (by omega)) ?_)
          have q3 := J2 (f := inn d false) hi
          refine Tot.bind (ih false _ (h9 i hi) (Ib hz 4 false (by simp) hi) ((hs.gr 4).get i)) fun r hr => ?_
          subst hr
          exact Tot.t (D2 Gb (by omega)) (next _ (by rw [H2 hi]))) _ i s rfl hi hs'
      refine Tot.in0 (g := fun k p_ q_ => Bc_l0 (lv k) k (gi a 0) (gs a 1) (gs a 2) (gs a 3) (gr a 4) (gr a 5) p_ ) ?_
      refine Tot.step0 (fun k p_ q_ => Bc_l0_q (lv k) k (gi a 0) (gs a 1) (gs a 2) (gs a 3) (gr a 4) (gr a 5) p_ ) ?_
      refine Tot.cond (fun h0 => ?_) (fun h0 => ?_)
      · have h0 := of_decide_eq_true h0
        refine Tot.t (decide_eq_true (by omega)) (Tot.bind (ih false _ (h9 0 (by omega)) (Ib hz 4 false (by simp) (show 0 < (gr a 4).length by omega)) ((hs.gr 4).get 0)) fun r hr => ?_)
        subst hr
        have q3 := J2 (f := inn d false) (show 0 < (gr a 4).length by omega)
        refine Tot.t (D2 Gb (by omega)) (l1 1 _ (by omega) ?_)
        rw [H2 (show 0 < (gr a 4).length by omega)]
        simp
      · have h0 := of_decide_eq_false h0
        have e1 : gr a 4 = [] := List.length_eq_zero_iff.1 (by omega)
        refine Tot.cond (fun h11 => ?_) (fun h11 => Tot.ret ?_)
        · have h11 := h7.1 (eq_of_beq h11)
          have h05 : 0 < (gr a 5).length := by omega
          rw [e5 h05] at hlen ⊢
          rw [List.length_append, List.length_singleton] at hlen
          refine Tot.t (decide_eq_true (by omega)) (Tot.bind (ih true _ (h10 0 h05) (Ib hz 5 true (by simp) h05) ((hs.gr 5).get 0)) fun r hr => ?_)
          subst hr
          refine Tot.t (D2 Gb (by omega)) (Tot.t (decide_eq_true (by omega)) (Tot.t (D2 Gb (by omega)) (Tot.ret ?_)))
          rw [e1]
          rfl
        · have h11 : gi a 0 ≠ 11 := by simpa using h11
          have e2 : gr a 5 = [] := List.length_eq_zero_iff.1 (by
            rcases Nat.lt_or_ge 0 (gr a 5).length with h | h
            · exact absurd (h7.2 (by omega)) h11
            · omega)
          simp [e1, e2]
theorem Aa7 {p : List C} (h : Cg p) : Tot (fun k _ _ => (lv k).Ar (gi p 0) (gr p 1) (gr p 2)) (fun r => r = inn 16 true p) := Aa8 16 (Nat.le_refl _) true p h.ok h.sz h.sm
theorem V9 {p : List C} (h : Cg p) (i : Nat) (hi : i ≤ (inn 16 true p).length) : Ded ((inn 16 true p).take i) (((inn 16 true p).take i).foldl Eo []) := P4 (Q2 (by omega) h.ok) h.inn i hi
theorem Aba {p : List C} (h : Cg p) : Tot (fun k _ _ => (lv k).Bj (gi p 0) (gr p 1) (gr p 2)) (fun r => r = (DD p, (DD p).map Cu, Ca 0 (DD p), (Bo p).n, (Bo p).s, (Bo p).e, (Bo p).E, (Bo p).T.map nf)) := by
  have hlen := h.len
  refine Bj_up _ _ _ (Tot.congr ?_ (fun k _ _ => Bj_q (lv k) k (gi p 0) (gr p 1) (gr p 2)))
  refine Tot.bind (N6 h) fun r hr => ?_
  subst hr
  refine Tot.bind (Aa7 h) fun r hr => ?_
  subst hr
  refine Tot.in0 (g := fun k p_ q_ => Bj_l0 (lv k) k (gi p 0) (gr p 1) (gr p 2) p_ 0 (Bo p).n (Bo p).s (Bo p).e (Bo p).E ((Bo p).T.map nf) (inn 16 true p)) ?_
  refine Tot.step0 (fun k p_ q_ => Bj_l0_q (lv k) k (gi p 0) (gr p 1) (gr p 2) p_ _ _ _ _ _ _ _) ?_
  rw [show Int.toNat 0 = 0 from rfl, show IntKind.i64.wrap ((0 : Int) + 1) = 1 from rfl]
  refine Tot.cond (fun h0 => ?_) (fun h0 => Tot.ret ?_)
  · have h0 := of_decide_eq_true h0
    have h0' : 0 < (inn 16 true p).length := by omega
    refine Tot.t (by rfl) (Tot.t (decide_eq_true (by omega)) ?_)
    have h1 := h.inn _ (D1 (d := []) h0')
    refine Tot.bind (N7 [] [] [] _ _ _ _ _ _ (fun y hy => by cases hy) (by simp) h1.sm) fun r hr => ?_
    have hr : r = -1 := by
      rcases hr with ⟨e, _⟩ | ⟨i, _, e, _⟩
      · exact e
      · simp at e
    subst hr
    refine Tot.f (by rfl) (Tot.t (by rfl) (Tot.t (decide_eq_true (by omega)) ?_))
    refine Tot.bind (N6 h1) fun r hr => ?_
    subst hr
    refine Tot.t (by rfl) (Tot.t (decide_eq_true (by omega)) ?_)
    have hn1 := h1.nst
    have e1 : ((inn 16 true p).take 1).foldl Eo [] = [row3 ((inn 16 true p).getD 0 [])] := by
      rw [I1 h0']
      show Eo [] ((inn 16 true p).getD 0 []) = _
      rw [M1 (by rintro ⟨z, hz, _⟩; cases hz)]
      rfl
    have loop := Tot.loop (H := fun k q r v s => Bj_l1 (lv k) k (gi p 0) (gr p 1) (gr p 2) q s.1 v (Bo p).n (Bo p).s (Bo p).e (Bo p).E ((Bo p).T.map nf) (inn 16 true p) s.2.1 s.2.2.1 s.2.2.2) (Q := fun r => r = (DD p, (DD p).map Cu, Ca 0 (DD p), (Bo p).n, (Bo p).s, (Bo p).e, (Bo p).E, (Bo p).T.map nf)) (n := (inn 16 true p).length) (fun i s => s = (B1 (((inn 16 true p).take i).foldl Eo []), ((inn 16 true p).take i).foldl Eo [], (((inn 16 true p).take i).foldl Eo []).map Cu, Ca 0 (((inn 16 true p).take i).foldl Eo []))) (by omega) (fun s hs => ?_) (fun i s hi hs next => ?_) _ 1 (nst ((inn 16 true p).getD 0 []), [row3 ((inn 16 true p).getD 0 [])], [Cu ((inn 16 true p).getD 0 [])], [[C.int .i64 0]]) rfl (by omega) (by
      rw [e1]
      simp only [B1, Ca, List.map_cons, List.map_nil, Int.add_zero]
      rfl)
    · rw [Ag (x := (0 : Int) + (Bo ((inn 16 true p).getD 0 [])).n) (by have := hn1.1; unfold nst at this; omega) (by have := hn1.2; unfold nst at this; omega), Int.zero_add]
      exact loop
    · subst hs
      refine Tot.step0 (fun k p_ q_ => Bj_l1_q (lv k) k (gi p 0) (gr p 1) (gr p 2) p_ _ _ _ _ _ _ _ _ _ _ _) ?_
      rw [List.take_length]
      exact Tot.f (decide_eq_false (by omega)) (Tot.ret rfl)
    · have hd := V9 h i (by omega)
      have hti : ((inn 16 true p).take (i + 1)).foldl Eo [] = Eo (((inn 16 true p).take i).foldl Eo []) ((inn 16 true p).getD i []) := by
        rw [I1 hi, List.foldl_append]
        rfl
      rw [hti] at next
      generalize ((inn 16 true p).take i).foldl Eo [] = D at hs hd next
      subst hs
      have hgi := h.inn _ (D1 (d := []) hi)
      have b0 : D.length ≤ 63 := by have := hd.len; rw [List.length_take] at this; omega
      refine Tot.step0 (fun k p_ q_ => Bj_l1_q (lv k) k (gi p 0) (gr p 1) (gr p 2) p_ _ _ _ _ _ _ _ _ _ _ _) ?_
      rw [Int.toNat_natCast]
      repeat (refine Tot.t (decide_eq_true (by omega)) ?_)
      refine Tot.bind (N7 D _ _ _ _ _ _ _ _ hd.good (by omega) hgi.sm) fun r hr => Tot.cond (fun hc => ?_) (fun hc => ?_)
      · have hc := of_decide_eq_true hc
        have hex : ∃ z, z ∈ D ∧ Ck true z ((inn 16 true p).getD i []) := by
          rcases hr with ⟨e, _⟩ | ⟨j, _, e1, e2, _⟩
          · omega
          · exact ⟨_, D1 e1, e2⟩
        rw [O4 hex] at next
        exact next _ rfl
      · have hc := of_decide_eq_false hc
        have hex : ¬ ∃ z, z ∈ D ∧ Ck true z ((inn 16 true p).getD i []) := by
          rintro ⟨z, hz, ha⟩
          obtain ⟨j, hj, rfl⟩ := Ge hz
          rcases hr with ⟨e, e1⟩ | ⟨j, e, _⟩
          · exact e1 j hj ha
          · omega
        rw [M1 hex] at next
        repeat (refine Tot.t (decide_eq_true (by omega)) ?_)
        refine Tot.bind (N6 hgi) fun r hr => ?_
        subst hr
        repeat (refine Tot.t (decide_eq_true (by omega)) ?_)
        have b1 := Gk hd.good
        have b2 := hgi.nst
        refine Tot.t (D2 Gb (by show D.length + 1 ≤ _; omega)) (Tot.t (D2 Vr (by simp; omega)) (Tot.t (D2 Pw (by rw [M8]; omega)) ?_))
        have nx := next _ rfl
        rw [J1, Vk, List.map_append] at nx
        simp only [B1, Ca, List.map_cons, List.map_nil, Int.add_zero, Int.zero_add] at nx ⊢
        rw [Ag (x := B1 D + (Bo ((inn 16 true p).getD i [])).n) (by unfold nst at b2; omega) (by unfold nst at b2; omega)]
        exact nx
  · have h0 := of_decide_eq_false h0
    have : inn 16 true p = [] := List.length_eq_zero_iff.1 (by omega)
    unfold DD
    rw [this]
    rfl
theorem Xq (A B C' : LL) (n s e : Int) (E T D : LL) (f : List C → List C) (hB : B = D.map f) (hf : ∀ x, gi (f x) 0 = nst x) (hD : ∀ x, x ∈ D → Cg x) (hl : D.length ≤ 1000000) : Tot (fun k _ _ => (lv k).B4 A B C' n s e E T) (fun r => r = B1 D) := by
  subst hB
  refine B4_up _ _ _ _ _ _ _ _ (Tot.congr ?_ (fun k _ _ => B4_q (lv k) k A (D.map f) C' n s e E T))
  refine Tot.in0 (Tot.loop (H := fun k p q v w => B4_l0 (lv k) k A (D.map f) C' n s e E T p w v) (n := D.length) (fun i w => w = B1 (D.take i)) (by omega) (fun w hw => ?_) (fun i w hi hw next => ?_) _ 0 0 rfl (by omega) rfl)
  · subst hw
    refine Tot.step0 (fun k p_ q_ => B4_l0_q (lv k) k A (D.map f) C' n s e E T p_ _ _) ?_
    rw [List.length_map, List.take_length]
    exact Tot.f (decide_eq_false (by omega)) (Tot.ret rfl)
  · subst hw
    refine Tot.step0 (fun k p_ q_ => B4_l0_q (lv k) k A (D.map f) C' n s e E T p_ _ _) ?_
    rw [Int.toNat_natCast, List.length_map]
    repeat (refine Tot.t (decide_eq_true (by omega)) ?_)
    have e1 : (D.map f).getD i [] = f (D.getD i []) := by simp [List.getD_eq_getElem?_getD, hi]
    have b1 := Gk (Mb hD i)
    have b2 := (hD _ (D1 (d := []) hi)).nst
    have b3 : (D.take i).length ≤ i := by simp; omega
    rw [e1, hf]
    refine next _ ?_
    rw [Ag (by omega) (by omega), I1 hi, J1]
    simp [B1]
theorem Aa9 (A B C' : LL) (n s e : Int) (E T D : LL) (f : List C → List C) (hB : B = D.map f) (hf : ∀ x, gi (f x) 0 = nst x) (hD : ∀ x, x ∈ D → Cg x) (hl : D.length ≤ 1000000) : Tot (fun k _ _ => (lv k).B3 A B C' n s e E T) (fun r => r = B1 D) := by
  subst hB
  refine B3_up _ _ _ _ _ _ _ _ (Tot.congr ?_ (fun k _ _ => B3_q (lv k) k A (D.map f) C' n s e E T))
  refine Tot.in0 (Tot.loop (H := fun k p q v w => B3_l0 (lv k) k A (D.map f) C' n s e E T p w v) (n := D.length) (fun i w => w = B1 (D.take i)) (by omega) (fun w hw => ?_) (fun i w hi hw next => ?_) _ 0 0 rfl (by omega) rfl)
  · subst hw
    refine Tot.step0 (fun k p_ q_ => B3_l0_q (lv k) k A (D.map f) C' n s e E T p_ _ _) ?_
    rw [List.length_map, List.take_length]
    exact Tot.f (decide_eq_false (by omega)) (Tot.ret rfl)
  · subst hw
    refine Tot.step0 (fun k p_ q_ => B3_l0_q (lv k) k A (D.map f) C' n s e E T p_ _ _) ?_
    rw [Int.toNat_natCast, List.length_map]
    repeat (refine Tot.t (decide_eq_true (by omega)) ?_)
    have e1 : (D.map f).getD i [] = f (D.getD i []) := by simp [List.getD_eq_getElem?_getD, hi]
    have b1 := Gk (Mb hD i)
    have b2 := (hD _ (D1 (d := []) hi)).nst
    have b3 : (D.take i).length ≤ i := by simp; omega
    rw [e1, hf]
    refine next _ ?_
    rw [Ag (by omega) (by omega), I1 hi, J1]
    simp [B1]
theorem Acn {p : List C} (hp : SmR BB p) (h : ok 16 true p ∧ ∀ d, sz d true p ≤ 64) : Cg p := ⟨h.1, h.2, hp⟩
def EdI (lo hi tl th : Int) (r : List C) : Prop := lo ≤ gi r 0 ∧ gi r 0 < hi ∧ lo ≤ gi r 1 ∧ gi r 1 < hi ∧ (gi r 2 = 3 → tl ≤ gi r 3 ∧ gi r 3 < th)
theorem EdI.mono {lo hi tl th lo' hi' tl' th' : Int} {r : List C} (h : EdI lo hi tl th r) (h1 : lo' ≤ lo) (h2 : hi ≤ hi') (h3 : tl' ≤ tl) (h4 : th ≤ th') : EdI lo' hi' tl' th' r := by
  obtain ⟨a, b, c, d, e⟩ := h
  exact ⟨by omega, by omega, by omega, by omega, fun h => by have := e h; omega⟩
theorem Ii {lo hi tl th a b k t : Int} (h1 : lo ≤ a) (h2 : a < hi) (h3 : lo ≤ b) (h4 : b < hi) (h5 : k = 3 → tl ≤ t ∧ t < th) : EdI lo hi tl th (st4 a b k t) := ⟨h1, h2, h3, h4, h5⟩
structure Shp (n t : Int) (m : Mk) : Prop where
  ed : ∀ r, r ∈ m.E → EdI n m.n t (t + m.T.length) r
  s0 : n ≤ m.s
  s1 : m.s < m.n
  e0 : n ≤ m.e
  e1 : m.e < m.n
structure ShA (n t s : Int) (m : Al) : Prop where
  ed : ∀ r, r ∈ m.E → EdI n m.n t (t + m.T.length) r
  es : ∀ b, b ∈ m.es → n ≤ b ∧ b < m.n
  s0 : n ≤ s
  s1 : s < m.n
theorem Abw {f : List C → Int → Int → Mk} {n t : Int} : ∀ {l : LL} {m : Mk}, (∀ r, r ∈ l → ∀ n t, Shp n t (f r n t)) → Shp n t m → Shp n t (Er f t l m) := by
  intro l
  induction l with
  | nil => intro m _ h; exact h
  | cons r l ih =>
    intro m hf hm
    have y := hf r List.mem_cons_self m.n (t + m.T.length)
    have h1 := hm.s0
    have h2 := hm.s1
    have h3 := hm.e0
    have h4 := hm.e1
    have h5 := y.s0
    have h6 := y.s1
    have h7 := y.e0
    have h8 := y.e1
    refine ih (fun r hr => hf r (List.mem_cons_of_mem _ hr)) ⟨fun x hx => ?_, h1, by show m.s < (f r m.n (t + m.T.length)).n; omega, by show n ≤ (f r m.n (t + m.T.length)).e; omega, h8⟩
    have hT : ((m.T ++ (f r m.n (t + m.T.length)).T).length : Int) = m.T.length + (f r m.n (t + m.T.length)).T.length := by simp
    show EdI n (f r m.n (t + m.T.length)).n t (t + ((m.T ++ (f r m.n (t + m.T.length)).T).length : Int)) x
    rw [hT]
    rcases List.mem_append.1 hx with hx | hx
    · exact (hm.ed x hx).mono (by omega) (by omega) (by omega) (by omega)
    · rcases List.mem_append.1 hx with hx | hx
      · exact (y.ed x hx).mono (by omega) (by omega) (by omega) (by omega)
      · rw [List.mem_singleton.1 hx]
        exact Ii (by omega) (by omega) (by omega) (by omega) (fun h => by cases h)
theorem Ul {f : List C → Int → Int → Mk} {n t s : Int} : ∀ {l : LL} {m : Al}, (∀ r, r ∈ l → ∀ n t, Shp n t (f r n t)) → ShA n t s m → ShA n t s (Dv f t s l m) := by
  intro l
  induction l with
  | nil => intro m _ h; exact h
  | cons r l ih =>
    intro m hf hm
    have y := hf r List.mem_cons_self m.n (t + m.T.length)
    have h1 := hm.s0
    have h2 := hm.s1
    have h5 := y.s0
    have h6 := y.s1
    have h7 := y.e0
    have h8 := y.e1
    refine ih (fun r hr => hf r (List.mem_cons_of_mem _ hr)) ⟨fun x hx => ?_, fun b hb => ?_, h1, by show s < (f r m.n (t + m.T.length)).n; omega⟩
    · have hT : ((m.T ++ (f r m.n (t + m.T.length)).T).length : Int) = m.T.length + (f r m.n (t + m.T.length)).T.length := by simp
      show EdI n (f r m.n (t + m.T.length)).n t (t + ((m.T ++ (f r m.n (t + m.T.length)).T).length : Int)) x
      rw [hT]
      rcases List.mem_append.1 hx with hx | hx
      · exact (hm.ed x hx).mono (by omega) (by omega) (by omega) (by omega)
      · rcases List.mem_append.1 hx with hx | hx
        · exact (y.ed x hx).mono (by omega) (by omega) (by omega) (by omega)
        · rw [List.mem_singleton.1 hx]
          exact Ii (by omega) (by omega) (by omega) (by omega) (fun h => by cases h)
    · show n ≤ b ∧ b < (f r m.n (t + m.T.length)).n
      rcases List.mem_append.1 hb with hb | hb
      · have := hm.es b hb; omega
      · rw [List.mem_singleton.1 hb]; omega
theorem N0 : ∀ (d : Nat) (op : Int) (subs tests : LL) (n t : Int), POk d op subs tests → Shp n t (mk d op subs tests n t) := by
  intro d
  induction d with
  | zero => intro op subs tests n t h; exact h.elim
  | succ d ih =>
    intro op subs tests n t h
    obtain ⟨h1, h7, h45, h6, h77, ht, hl, h0, hsub⟩ := h
    have hf : ∀ r, r ∈ subs → ∀ n t, Shp n t (fr d r n t) := fun r hr n t => ih _ _ _ n t (hsub r hr)
    by_cases e4 : op = 4
    · cases subs with
      | nil => have := h45 (.inl e4); simp at this
      | cons r l => rw [Rl e4]; exact Abw (fun r hr => hf r (List.mem_cons_of_mem _ hr)) (hf r List.mem_cons_self n t)
    · by_cases e5 : op = 5
      · rw [Rm e5]
        have a := Ul (l := subs) (n := n) (t := t) (s := n) (m := ⟨n + 1, [], [], []⟩) hf ⟨fun r hr => (by cases hr), fun b hb => (by cases hb), Int.le_refl _, by show n < n + 1; omega⟩
        have g1 := a.s1
        refine ⟨fun x hx => ?_, Int.le_refl _, by show n < (Dv _ _ _ _ _).n + 1; omega, by show n ≤ (Dv _ _ _ _ _).n; omega, by show (Dv _ _ _ _ _).n < (Dv _ _ _ _ _).n + 1; omega⟩
        rcases List.mem_append.1 hx with hx | hx
        · exact (a.ed x hx).mono (Int.le_refl _) (by show _ ≤ (Dv _ _ _ _ _).n + 1; omega) (Int.le_refl _) (Int.le_refl _)
        · obtain ⟨b, hb, rfl⟩ := List.mem_map.1 hx
          have := a.es b hb
          exact Ii (by omega) (by show b < (Dv _ _ _ _ _).n + 1; omega) (by omega) (by show (Dv _ _ _ _ _).n < (Dv _ _ _ _ _).n + 1; omega) (fun h => by cases h)
      · by_cases e6 : op = 6
        · cases subs with
          | nil => have := h6 e6; simp at this
          | cons r l =>
            rw [Ro e6]
            have y := hf r List.mem_cons_self (n + 1) t
            have g1 := y.s0
            have g2 := y.s1
            have g3 := y.e0
            have g4 := y.e1
            refine ⟨fun x hx => ?_, Int.le_refl _, by show n < (fr d r (n + 1) t).n; omega, Int.le_refl _, by show n < (fr d r (n + 1) t).n; omega⟩
            rcases List.mem_append.1 hx with hx | hx
            · rcases List.mem_append.1 hx with hx | hx
              · exact (y.ed x hx).mono (by omega) (Int.le_refl _) (Int.le_refl _) (Int.le_refl _)
              · rw [List.mem_singleton.1 hx]
                exact Ii (Int.le_refl _) (by show n < (fr d r (n + 1) t).n; omega) (by omega) g2 (fun h => by cases h)
            · rw [List.mem_singleton.1 hx]
              exact Ii (by omega) g4 (Int.le_refl _) (by show n < (fr d r (n + 1) t).n; omega) (fun h => by cases h)
        · by_cases e7 : op = 7
          · rw [Rp e7]
            have htl := h77.1 e7
            refine ⟨fun x hx => ?_, Int.le_refl _, by show n < n + 2; omega, by show n ≤ n + 1; omega, by show n + 1 < n + 2; omega⟩
            rw [List.mem_singleton.1 hx]
            exact Ii (Int.le_refl _) (by show n < n + 2; omega) (by omega) (by show n + 1 < n + 2; omega) (fun _ => ⟨Int.le_refl _, by show t < t + (tests.length : Int); omega⟩)
          · rw [Rk e4 e5 e6 e7]
            refine ⟨fun x hx => ?_, Int.le_refl _, by show n < n + 2; omega, by show n ≤ n + 1; omega, by show n + 1 < n + 2; omega⟩
            rw [List.mem_singleton.1 hx]
            refine Ii (Int.le_refl _) (by show n < n + 2; omega) (by omega) (by show n + 1 < n + 2; omega) (fun h => ?_)
            unfold Ha at h
            split at h
            · cases h
            · split at h <;> cases h
structure Ctx (D B K ea bits : LL) : Prop where
  good : ∀ x, x ∈ D → Cg x
  dl : D.length ≤ 1000
  bl : B.length = D.length
  kl : K.length = D.length
  at_ : ∀ i, i < D.length → 0 ≤ gi (K.getD i []) 0 + gi (B.getD i []) 1 ∧ gi (K.getD i []) 0 + gi (B.getD i []) 1 < bits.length
  bits : bits.length ≤ 1000000
  al : ea.length ≤ 1048576
theorem Fst.ex (n : Nat) (p : Nat → Prop) : ∃ r, Fst n p r := by
  induction n with
  | zero => exact ⟨-1, .inl ⟨rfl, fun j h => by omega⟩⟩
  | succ n ih =>
    obtain ⟨r, hr⟩ := ih
    rcases hr with ⟨e, h⟩ | ⟨i, e, h1, h2, h3⟩
    · by_cases hp : p n
      · exact ⟨n, .inr ⟨n, rfl, by omega, hp, h⟩⟩
      · exact ⟨-1, .inl ⟨rfl, fun j hj => by
          rcases Nat.lt_or_ge j n with g | g
          · exact h j g
          · rw [show j = n by omega]; exact hp⟩⟩
    · exact ⟨r, .inr ⟨i, e, by omega, h2, h3⟩⟩
section
variable {D B K E T ea bits : LL} {n s e ek : Int} {e1 e2 et : ByteArray}
theorem Xz (h : Ctx D B K ea bits) (x : List C) (hx : SmR BB x) : ∃ b, Tot (fun k _ _ => (lv k).De D B K n s e E T ek e1 e2 ea et bits (gi x 0) (gr x 1) (gr x 2)) (fun r => r = b) ∧
    Tot (fun k _ _ => ((lv k).Bs D B K n s e E T (gi x 0) (gr x 1) (gr x 2)).bind fun r2 => cond (decide (r2 ≥ (0 : Int))) (cond (decide ((0 : Int) ≤ r2)) (cond (decide (r2 < (K.length : Int))) (cond (decide ((0 : Int) ≤ r2)) (cond (decide (r2 < (B.length : Int))) (cond (decide ((0 : Int) ≤ IntKind.i64.wrap ((gi (K.getD r2.toNat []) 0) + (gi (B.getD r2.toNat []) 1)))) (cond (decide (IntKind.i64.wrap ((gi (K.getD r2.toNat []) 0) + (gi (B.getD r2.toNat []) 1)) < (bits.length : Int))) (some ((gi (bits.getD ((IntKind.i64.wrap ((gi (K.getD r2.toNat []) 0) + (gi (B.getD r2.toNat []) 1))).toNat) []) 0) == (1 : Int))) none) none) none) none) none) none) (some false)) (fun r => r = b) := by
  obtain ⟨r, hr⟩ := Fst.ex D.length (fun j => Ck true (D.getD j []) x)
  have key : ∀ {g : Nat → Nat → Nat → Option Int}, Tot g (Fst D.length (fun j => Ck true (D.getD j []) x)) → Tot (fun k p q => (g k p q).bind fun r2 => cond (decide (r2 ≥ (0 : Int))) (cond (decide ((0 : Int) ≤ r2)) (cond (decide (r2 < (K.length : Int))) (cond (decide ((0 : Int) ≤ r2)) (cond (decide (r2 < (B.length : Int))) (cond (decide ((0 : Int) ≤ IntKind.i64.wrap ((gi (K.getD r2.toNat []) 0) + (gi (B.getD r2.toNat []) 1)))) (cond (decide (IntKind.i64.wrap ((gi (K.getD r2.toNat []) 0) + (gi (B.getD r2.toNat []) 1)) < (bits.length : Int))) (some ((gi (bits.getD ((IntKind.i64.wrap ((gi (K.getD r2.toNat []) 0) + (gi (B.getD r2.toNat []) 1))).toNat) []) 0) == (1 : Int))) none) none) none) none) none) none) (some false)) (fun r' => r' = (decide (0 ≤ r) && (gi (bits.getD ((gi (K.getD r.toNat []) 0 + gi (B.getD r.toNat []) 1).toNat) []) 0 == (1 : Int)))) := by
    intro g hg
    refine Tot.bind hg fun r' hr' => ?_
    have hrr := hr'.uniq hr
    subst hrr
    refine Tot.cond (fun h0 => ?_) (fun h0 => Tot.ret ?_)
    · have h0 := of_decide_eq_true h0
      obtain ⟨i, rfl, hi⟩ : ∃ i : Nat, r' = i ∧ i < D.length := by
        rcases hr with ⟨e', _⟩ | ⟨i, e', g, _⟩
        · omega
        · exact ⟨i, e', g⟩
      have hat := h.at_ i hi
      have hb := h.bits
      have hbl := h.bl
      have hkl := h.kl
      rw [Int.toNat_natCast, Ag (x := gi (K.getD i []) 0 + gi (B.getD i []) 1) (by omega) (by omega)]
      refine Tot.t (decide_eq_true (by omega)) (Tot.t (decide_eq_true (by omega)) (Tot.t (decide_eq_true (by omega)) (Tot.t (decide_eq_true (by omega)) (Tot.t (decide_eq_true (by omega)) (Tot.t (decide_eq_true (by omega)) (Tot.ret ?_))))))
      rw [decide_eq_true (show (0 : Int) ≤ (i : Int) by omega)]
      rfl
    · rw [show decide (0 ≤ r') = false from h0]
      rfl
  refine ⟨_, ?_, key (N7 D B K n s e E T x h.good (by have := h.dl; omega) hx)⟩
  refine De_up _ _ _ _ _ _ _ _ _ _ _ _ _ _ _ _ _ (Tot.congr ?_ (fun k _ _ => De_q (lv k) k D B K n s e E T ek e1 e2 ea et bits (gi x 0) (gr x 1) (gr x 2)))
  exact key (Z5 D B K n s e E T x h.good (by have := h.dl; omega) hx)
def Af (ea : LL) (n1 n2 : ByteArray) : Int → Prop := Fst ea.length (fun j => gs (ea.getD j []) 0 = n1 ∧ gs (ea.getD j []) 1 = n2)
def av (ea : LL) (r : Int) : ByteArray := if r = -1 then ⟨#[]⟩ else gs (ea.getD r.toNat []) 2
def ab (ek : Int) (r : Int) : Bool := if r = -1 then false else ek == 1
theorem U7 (h : Ctx D B K ea bits) (n1 n2 : ByteArray) {r : Int} (hr : Af ea n1 n2 r) : Tot (fun k _ _ => (lv k).B0 D B K n s e E T ek e1 e2 ea et bits n1 n2) (fun x => x = (av ea r, ab ek r)) := by
  have hal := h.al
  refine B0_up _ _ _ _ _ _ _ _ _ _ _ _ _ _ _ _ (Tot.congr ?_ (fun k _ _ => B0_q (lv k) k D B K n s e E T ek e1 e2 ea et bits n1 n2))
  refine Tot.in0 (Tot.loop (H := fun k p q v (_ : Unit) => B0_l0 (lv k) k D B K n s e E T ek e1 e2 ea et bits n1 n2 p v) (n := ea.length) (fun i _ => ∀ j, j < i → ¬ (gs (ea.getD j []) 0 = n1 ∧ gs (ea.getD j []) 1 = n2)) (by omega) (fun _ hh => ?_) (fun i _ hi hh next => ?_) _ 0 () rfl (by omega) (fun j hj => by omega))
  · refine Tot.step0 (fun k p_ q_ => B0_l0_q (lv k) k D B K n s e E T ek e1 e2 ea et bits n1 n2 p_ _) ?_
    have : r = -1 := hr.uniq (.inl ⟨rfl, hh⟩)
    subst this
    exact Tot.f (decide_eq_false (by omega)) (Tot.ret rfl)
  · refine Tot.step0 (fun k p_ q_ => B0_l0_q (lv k) k D B K n s e E T ek e1 e2 ea et bits n1 n2 p_ _) ?_
    rw [Int.toNat_natCast]
    repeat (refine Tot.t (decide_eq_true (by omega)) ?_)
    refine Tot.cond (fun hc => Tot.ret ?_) (fun hc => next () (fun j hj => ?_))
    · have : r = i := hr.uniq (.inr ⟨i, rfl, hi, Fs.1 hc, hh⟩)
      subst this
      unfold av ab
      rw [if_neg (by omega), if_neg (by omega), Int.toNat_natCast]
    · rcases Nat.lt_or_ge j i with g | g
      · exact hh j g
      · rw [show j = i by omega]
        intro hb
        rw [Fs.2 hb] at hc
        cases hc
theorem U8 (h : Ctx D B K ea bits) (n1 n2 : ByteArray) {r : Int} (hr : Af ea n1 n2 r) : Tot (fun k _ _ => (lv k).Bz D B K n s e E T ek e1 e2 ea et bits n1 n2) (fun x => x = (av ea r, ab ek r, D, B, K, n, s, e, E, T, ek, e1, e2, ea, et, bits)) := by
  have hal := h.al
  refine Bz_up _ _ _ _ _ _ _ _ _ _ _ _ _ _ _ _ (Tot.congr ?_ (fun k _ _ => Bz_q (lv k) k D B K n s e E T ek e1 e2 ea et bits n1 n2))
  refine Tot.in0 (Tot.loop (H := fun k p q v (_ : Unit) => Bz_l0 (lv k) k D B K n s e E T ek e1 e2 ea et bits n1 n2 p v) (n := ea.length) (fun i _ => ∀ j, j < i → ¬ (gs (ea.getD j []) 0 = n1 ∧ gs (ea.getD j []) 1 = n2)) (by omega) (fun _ hh => ?_) (fun i _ hi hh next => ?_) _ 0 () rfl (by omega) (fun j hj => by omega))
  · refine Tot.step0 (fun k p_ q_ => Bz_l0_q (lv k) k D B K n s e E T ek e1 e2 ea et bits n1 n2 p_ _) ?_
    have : r = -1 := hr.uniq (.inl ⟨rfl, hh⟩)
    subst this
    exact Tot.f (decide_eq_false (by omega)) (Tot.ret rfl)
  · refine Tot.step0 (fun k p_ q_ => Bz_l0_q (lv k) k D B K n s e E T ek e1 e2 ea et bits n1 n2 p_ _) ?_
    rw [Int.toNat_natCast]
    repeat (refine Tot.t (decide_eq_true (by omega)) ?_)
    refine Tot.cond (fun hc => Tot.ret ?_) (fun hc => next () (fun j hj => ?_))
    · have : r = i := hr.uniq (.inr ⟨i, rfl, hi, Fs.1 hc, hh⟩)
      subst this
      unfold av ab
      rw [if_neg (by omega), if_neg (by omega), Int.toNat_natCast]
    · rcases Nat.lt_or_ge j i with g | g
      · exact hh j g
      · rw [show j = i by omega]
        intro hb
        rw [Fs.2 hb] at hc
        cases hc
structure HH (D B K : LL) (n s e : Int) (E T : LL) (ek : Int) (e1 e2 : ByteArray) (ea : LL) (et : ByteArray) (bits : LL) (f : List C) (b : Bool) : Prop where
  p2 : Tot (fun k _ _ => (lv k).Cz D B K n s e E T ek e1 e2 ea et bits (gi f 0) (gs f 1) (gs f 2) (gs f 3) (gr f 4) (gr f 5)) (fun r => r = b)
  p1 : Tot (fun k _ _ => (lv k).Cy D B K n s e E T ek e1 e2 ea et bits (gi f 0) (gs f 1) (gs f 2) (gs f 3) (gr f 4) (gr f 5)) (fun r => r = (b, D, B, K, n, s, e, E, T, ek, e1, e2, ea, et, bits))
  rf : Tot (fun k _ _ => (lv k).A0 D B K n s e E T (gi f 0) (gs f 1) (gs f 2) (gs f 3) (gr f 4) (gr f 5) ek e1 e2 ea et bits) (fun r => r = b)
open Classical in
theorem G9 : ∀ d, d ≤ 16 → Ctx D B K ea bits → ∀ (f : List C), ok d false f → SmR BB f → ∃ b, HH D B K n s e E T ek e1 e2 ea et bits f b := by
  intro d
  induction d with
  | zero => intro _ _ f h; exact h.elim
  | succ d ih =>
    intro hd hc f hf hs
    have ih := ih (by omega) hc
    obtain ⟨h1, h11, h8, h64, h910, h0, h511, h51, h9, h10⟩ := hf
    have hl4 : (gr f 4).length ≤ 1048576 := (hs.gr 4).1
    have hl5 : (gr f 5).length ≤ 1048576 := (hs.gr 5).1
    obtain ⟨bs, hbs⟩ : ∃ bs : Nat → Bool, ∀ i, i < (gr f 4).length → HH D B K n s e E T ek e1 e2 ea et bits ((gr f 4).getD i []) (bs i) := by
      have : ∀ i, ∃ b, i < (gr f 4).length → HH D B K n s e E T ek e1 e2 ea et bits ((gr f 4).getD i []) b := fun i => by
        by_cases hi : i < (gr f 4).length
        · obtain ⟨b, hb⟩ := ih _ (h9 i hi) ((hs.gr 4).get i)
          exact ⟨b, fun _ => hb⟩
        · exact ⟨false, fun h => absurd h hi⟩
      exact Classical.axiomOfChoice this
    have c2 : Tot (fun k _ _ => (lv k).Cm (gr f 4) D B K n s e E T ek e1 e2 ea et bits) (fun r => r = decide (∃ j, j < (gr f 4).length ∧ bs j = false)) := by
      refine Cm_up _ _ _ _ _ _ _ _ _ _ _ _ _ _ _ (Tot.congr ?_ (fun k _ _ => Cm_q (lv k) k (gr f 4) D B K n s e E T ek e1 e2 ea et bits))
      refine Tot.bind (R := Fst (gr f 4).length (fun j => bs j = false)) ?_ fun r hr => Tot.ret ?_
      · refine B6_up _ _ _ _ _ _ _ _ _ _ _ _ _ _ _ (Tot.congr ?_ (fun k _ _ => B6_q (lv k) k (gr f 4) D B K n s e E T ek e1 e2 ea et bits))
        refine Tot.in0 (Tot.first (H := fun k p q v => B6_l0 (lv k) k (gr f 4) D B K n s e E T ek e1 e2 ea et bits p v) (n := (gr f 4).length) (by omega) ?_ (fun i Q hi hy hn => ?_))
        · refine Tot.step0 (fun k p_ q_ => B6_l0_q (lv k) k (gr f 4) D B K n s e E T ek e1 e2 ea et bits p_ _) ?_
          exact Tot.f (decide_eq_false (by omega)) (Tot.ret rfl)
        · refine Tot.step0 (fun k p_ q_ => B6_l0_q (lv k) k (gr f 4) D B K n s e E T ek e1 e2 ea et bits p_ _) ?_
          rw [Int.toNat_natCast]
          repeat (refine Tot.t (decide_eq_true (by omega)) ?_)
          refine Tot.bind (R := fun r => r = !(bs i)) ?_ fun r hr => ?_
          · refine Dm_up _ _ _ _ _ _ _ _ _ _ _ _ _ _ _ _ _ _ _ _ (Tot.congr ?_ (fun k _ _ => Dm_q (lv k) k D B K n s e E T ek e1 e2 ea et bits (gi ((gr f 4).getD i []) 0) (gs ((gr f 4).getD i []) 1) (gs ((gr f 4).getD i []) 2) (gs ((gr f 4).getD i []) 3) (gr ((gr f 4).getD i []) 4) (gr ((gr f 4).getD i []) 5)))
            exact Tot.bind (hbs i hi).p2 fun r hr => Tot.ret (by rw [hr])
          · subst hr
            exact Tot.cond (fun h => Tot.ret (hy (by simpa using h))) (fun h => hn (by simpa using h))
      · rcases hr with ⟨rfl, hh⟩ | ⟨i, rfl, g1, g2, g3⟩
        · exact (decide_eq_false (by omega)).trans (decide_eq_false (fun ⟨j, a, b⟩ => hh j a b)).symm
        · exact (decide_eq_true (by omega)).trans (decide_eq_true ⟨i, g1, g2⟩).symm
    have c3 : Tot (fun k _ _ => (lv k).Cn (gr f 4) D B K n s e E T ek e1 e2 ea et bits) (fun r => r = decide (∃ j, j < (gr f 4).length ∧ bs j = true)) := by
      refine Cn_up _ _ _ _ _ _ _ _ _ _ _ _ _ _ _ (Tot.congr ?_ (fun k _ _ => Cn_q (lv k) k (gr f 4) D B K n s e E T ek e1 e2 ea et bits))
      refine Tot.bind (R := Fst (gr f 4).length (fun j => bs j = true)) ?_ fun r hr => Tot.ret ?_
      · refine B7_up _ _ _ _ _ _ _ _ _ _ _ _ _ _ _ (Tot.congr ?_ (fun k _ _ => B7_q (lv k) k (gr f 4) D B K n s e E T ek e1 e2 ea et bits))
        refine Tot.in0 (Tot.first (H := fun k p q v => B7_l0 (lv k) k (gr f 4) D B K n s e E T ek e1 e2 ea et bits p v) (n := (gr f 4).length) (by omega) ?_ (fun i Q hi hy hn => ?_))
        · refine Tot.step0 (fun k p_ q_ => B7_l0_q (lv k) k (gr f 4) D B K n s e E T ek e1 e2 ea et bits p_ _) ?_
          exact Tot.f (decide_eq_false (by omega)) (Tot.ret rfl)
        · refine Tot.step0 (fun k p_ q_ => B7_l0_q (lv k) k (gr f 4) D B K n s e E T ek e1 e2 ea et bits p_ _) ?_
          rw [Int.toNat_natCast]
          repeat (refine Tot.t (decide_eq_true (by omega)) ?_)
          refine Tot.bind (hbs i hi).p2 fun r hr => ?_
          subst hr
          exact Tot.cond (fun h => Tot.ret (hy h)) (fun h => hn (by rw [h]; simp))
      · rcases hr with ⟨rfl, hh⟩ | ⟨i, rfl, g1, g2, g3⟩
        · exact (decide_eq_false (by omega)).trans (decide_eq_false (fun ⟨j, a, b⟩ => hh j a b)).symm
        · exact (decide_eq_true (by omega)).trans (decide_eq_true ⟨i, g1, g2⟩).symm
    have rl : ∀ op : Int, Tot (fun k _ _ => A0_l0 (lv k) k D B K n s e E T op (gs f 1) (gs f 2) (gs f 3) (gr f 4) (gr f 5) ek e1 e2 ea et bits k true false 0) (fun r => r = cond (op == 9) (decide (∀ j, j < (gr f 4).length → bs j = true)) (cond (op == 10) (decide (∃ j, j < (gr f 4).length ∧ bs j = true)) false)) := by
      intro op
      refine Tot.in0 (Tot.loop (H := fun k p q v (w : Bool × Bool) => A0_l0 (lv k) k D B K n s e E T op (gs f 1) (gs f 2) (gs f 3) (gr f 4) (gr f 5) ek e1 e2 ea et bits p w.1 w.2 v) (n := (gr f 4).length) (fun i w => w.1 = decide (∀ j, j < i → bs j = true) ∧ w.2 = decide (∃ j, j < i ∧ bs j = true)) (by omega) (fun w hw => ?_) (fun i w hi hw next => ?_) _ 0 (true, false) rfl (by omega) ⟨(decide_eq_true (fun j hj => by omega)).symm, (decide_eq_false (fun ⟨j, hj, _⟩ => by omega)).symm⟩)
      · refine Tot.step0 (fun k p_ q_ => A0_l0_q (lv k) k D B K n s e E T op (gs f 1) (gs f 2) (gs f 3) (gr f 4) (gr f 5) ek e1 e2 ea et bits p_ _ _ _) ?_
        obtain ⟨w1, w2⟩ := w
        obtain ⟨hw1, hw2⟩ := hw
        simp only at hw1 hw2
        rw [← hw1, ← hw2]
        refine Tot.f (decide_eq_false (by omega)) (Tot.cond (fun g9 => ?_) (fun g9 => ?_))
        · rw [g9]
          refine Tot.cond (fun g => Tot.ret (by have g : w1 = true := g; rw [g]; rfl)) (fun g => ?_)
          have g : w1 = false := g
          have : op = 9 := by simpa using g9
          subst this
          exact Tot.f (by rfl) (Tot.ret (by rw [g]; rfl))
        · rw [g9]
          exact Tot.cond (fun g => Tot.ret (by rw [g]; rfl)) (fun g => Tot.ret (by rw [g]; rfl))
      · refine Tot.step0 (fun k p_ q_ => A0_l0_q (lv k) k D B K n s e E T op (gs f 1) (gs f 2) (gs f 3) (gr f 4) (gr f 5) ek e1 e2 ea et bits p_ _ _ _) ?_
        obtain ⟨w1, w2⟩ := w
        obtain ⟨hw1, hw2⟩ := hw
        simp only at hw1 hw2
        rw [Int.toNat_natCast]
        repeat (refine Tot.t (decide_eq_true (by omega)) ?_)
        refine Tot.bind (hbs i hi).rf fun r hr => ?_
        subst hr
        have e1 : (w1 && bs i) = decide (∀ j, j < i + 1 → bs j = true) := by
          rw [hw1]
          rw [Bool.eq_iff_iff, Bool.and_eq_true, decide_eq_true_eq, decide_eq_true_eq]
          exact ⟨fun h j hj => by
            rcases Nat.lt_or_ge j i with g | g
            · exact h.1 j g
            · rw [show j = i by omega]; exact h.2, fun h => ⟨fun j hj => h j (by omega), h i (by omega)⟩⟩
        have e2 : (w2 || bs i) = decide (∃ j, j < i + 1 ∧ bs j = true) := by
          rw [hw2]
          rw [Bool.eq_iff_iff, Bool.or_eq_true, decide_eq_true_eq, decide_eq_true_eq]
          exact ⟨fun h => by
            rcases h with ⟨j, a, b⟩ | h
            · exact ⟨j, by omega, b⟩
            · exact ⟨i, by omega, h⟩, fun ⟨j, a, b⟩ => by
            rcases Nat.lt_or_ge j i with g | g
            · exact .inl ⟨j, g, b⟩
            · rw [show j = i by omega] at b; exact .inr b⟩
        have nx := next (w1 && bs i, w2 || bs i) ⟨e1, e2⟩
        refine Tot.cond (fun g1 => Tot.cond (fun g2 => ?_) (fun g2 => ?_)) (fun g1 => Tot.cond (fun g2 => ?_) (fun g2 => ?_)) <;> (cases w1 <;> cases w2 <;> first | (cases g1; done) | (cases g2; done) | (simpa using nx))
    have ra : ∀ {r : Int}, Af ea (gs f 1) (gs f 2) r → ∀ op : Int, 5 ≤ op → Tot (fun k _ _ => A0_l1 (lv k) k D B K n s e E T op (gs f 1) (gs f 2) (gs f 3) (gr f 4) (gr f 5) ek e1 e2 ea et bits k 0) (fun x => x = if r = -1 then op == 2 else cond (op == 5) true ((av ea r).toList == (gs f 3).toList)) := by
      intro r hr op hop
      have hal := hc.al
      refine Tot.in0 (Tot.loop (H := fun k p q v (_ : Unit) => A0_l1 (lv k) k D B K n s e E T op (gs f 1) (gs f 2) (gs f 3) (gr f 4) (gr f 5) ek e1 e2 ea et bits p v) (n := ea.length) (fun i _ => ∀ j, j < i → ¬ (gs (ea.getD j []) 0 = gs f 1 ∧ gs (ea.getD j []) 1 = gs f 2)) (by omega) (fun _ hh => ?_) (fun i _ hi hh next => ?_) _ 0 () rfl (by omega) (fun j hj => by omega))
      · refine Tot.step0 (fun k p_ q_ => A0_l1_q (lv k) k D B K n s e E T op (gs f 1) (gs f 2) (gs f 3) (gr f 4) (gr f 5) ek e1 e2 ea et bits p_ _) ?_
        have : r = -1 := hr.uniq (.inl ⟨rfl, hh⟩)
        rw [if_pos this]
        exact Tot.f (decide_eq_false (by omega)) (Tot.ret rfl)
      · refine Tot.step0 (fun k p_ q_ => A0_l1_q (lv k) k D B K n s e E T op (gs f 1) (gs f 2) (gs f 3) (gr f 4) (gr f 5) ek e1 e2 ea et bits p_ _) ?_
        rw [Int.toNat_natCast]
        repeat (refine Tot.t (decide_eq_true (by omega)) ?_)
        refine Tot.cond (fun hcc => ?_) (fun hcc => next () (fun j hj => ?_))
        · have : r = i := hr.uniq (.inr ⟨i, rfl, hi, Fs.1 hcc, hh⟩)
          subst this
          unfold av
          rw [if_neg (by omega), if_neg (by omega), Int.toNat_natCast]
          refine Tot.cond (fun g => Tot.ret (by rw [g]; rfl)) (fun g => ?_)
          repeat (refine Tot.t (decide_eq_true (by omega)) ?_)
          exact Tot.ret (by rw [g]; rfl)
        · rcases Nat.lt_or_ge j i with g | g
          · exact hh j g
          · rw [show j = i by omega]
            intro hb
            rw [Fs.2 hb] at hcc
            cases hcc
    have q2 : ∀ {Q}, Tot _ Q → Tot (fun k _ _ => (lv k).Cz D B K n s e E T ek e1 e2 ea et bits (gi f 0) (gs f 1) (gs f 2) (gs f 3) (gr f 4) (gr f 5)) Q := fun h => Cz_up _ _ _ _ _ _ _ _ _ _ _ _ _ _ _ _ _ _ _ _ (Tot.congr h (fun k _ _ => Cz_q (lv k) k D B K n s e E T ek e1 e2 ea et bits (gi f 0) (gs f 1) (gs f 2) (gs f 3) (gr f 4) (gr f 5)))
    have q1 : ∀ {Q}, Tot _ Q → Tot (fun k _ _ => (lv k).Cy D B K n s e E T ek e1 e2 ea et bits (gi f 0) (gs f 1) (gs f 2) (gs f 3) (gr f 4) (gr f 5)) Q := fun h => Cy_up _ _ _ _ _ _ _ _ _ _ _ _ _ _ _ _ _ _ _ _ (Tot.congr h (fun k _ _ => Cy_q (lv k) k D B K n s e E T ek e1 e2 ea et bits (gi f 0) (gs f 1) (gs f 2) (gs f 3) (gr f 4) (gr f 5)))
    have qr : ∀ {Q}, Tot _ Q → Tot (fun k _ _ => (lv k).A0 D B K n s e E T (gi f 0) (gs f 1) (gs f 2) (gs f 3) (gr f 4) (gr f 5) ek e1 e2 ea et bits) Q := fun h => A0_up _ _ _ _ _ _ _ _ _ _ _ _ _ _ _ _ _ _ _ _ (Tot.congr h (fun k _ _ => A0_q (lv k) k D B K n s e E T (gi f 0) (gs f 1) (gs f 2) (gs f 3) (gr f 4) (gr f 5) ek e1 e2 ea et bits))
    have hop : gi f 0 = 1 ∨ gi f 0 = 2 ∨ gi f 0 = 3 ∨ gi f 0 = 4 ∨ gi f 0 = 5 ∨ gi f 0 = 6 ∨ gi f 0 = 7 ∨ gi f 0 = 8 ∨ gi f 0 = 9 ∨ gi f 0 = 10 ∨ gi f 0 = 11 := by omega
    obtain ⟨r, hr⟩ : ∃ r, Af ea (gs f 1) (gs f 2) r := Fst.ex _ _
    have at2 := U7 (n := n) (s := s) (e := e) (E := E) (T := T) (ek := ek) (e1 := e1) (e2 := e2) (et := et) hc _ _ hr
    have at1 := U8 (n := n) (s := s) (e := e) (E := E) (T := T) (ek := ek) (e1 := e1) (e2 := e2) (et := et) hc _ _ hr
    rcases hop with e_ | e_ | e_ | e_ | e_ | e_ | e_ | e_ | e_ | e_ | e_
    · refine ⟨true, q2 ?_, q1 ?_, qr ?_⟩ <;> rw [e_]
      · repeat (first | refine Tot.t (by rfl) ?_ | refine Tot.f (by rfl) ?_)
        exact Tot.ret rfl
      · repeat (first | refine Tot.t (by rfl) ?_ | refine Tot.f (by rfl) ?_)
        exact Tot.ret rfl
      · repeat (first | refine Tot.t (by rfl) ?_ | refine Tot.f (by rfl) ?_)
        exact Tot.ret rfl
    · refine ⟨ek == 1, q2 ?_, q1 ?_, qr ?_⟩ <;> rw [e_]
      · repeat (first | refine Tot.t (by rfl) ?_ | refine Tot.f (by rfl) ?_)
        exact Tot.ret rfl
      · repeat (first | refine Tot.t (by rfl) ?_ | refine Tot.f (by rfl) ?_)
        exact Tot.ret rfl
      · repeat (first | refine Tot.t (by rfl) ?_ | refine Tot.f (by rfl) ?_)
        refine Tot.cond (fun g => Tot.ret ?_) (fun g => ?_)
        · have g : (ek == 1) = false := by simpa using g
          exact g.symm
        · have g : (ek == 1) = true := by simpa using g
          rw [g]
          repeat (first | refine Tot.t (by rfl) ?_ | refine Tot.f (by rfl) ?_)
          refine Tot.in0 (g := fun k p_ q_ => A0_l1 (lv k) k D B K n s e E T 2 (gs f 1) (gs f 2) (gs f 3) (gr f 4) (gr f 5) ek e1 e2 ea et bits p_ 0) ?_
          refine Tot.step0 (fun k p_ q_ => A0_l1_q (lv k) k D B K n s e E T 2 (gs f 1) (gs f 2) (gs f 3) (gr f 4) (gr f 5) ek e1 e2 ea et bits p_ _) ?_
          exact Tot.cond (fun _ => Tot.f (by rfl) (Tot.ret rfl)) (fun _ => Tot.ret rfl)
    · refine ⟨!(ek == 1), q2 ?_, q1 ?_, qr ?_⟩ <;> rw [e_]
      · repeat (first | refine Tot.t (by rfl) ?_ | refine Tot.f (by rfl) ?_)
        exact Tot.ret rfl
      · repeat (first | refine Tot.t (by rfl) ?_ | refine Tot.f (by rfl) ?_)
        exact Tot.ret rfl
      · repeat (first | refine Tot.t (by rfl) ?_ | refine Tot.f (by rfl) ?_)
        refine Tot.cond (fun g => ?_) (fun g => Tot.ret g.symm)
        rw [g]
        repeat (first | refine Tot.t (by rfl) ?_ | refine Tot.f (by rfl) ?_)
        exact Tot.ret rfl
    · refine ⟨(ek == 1) && ((e1 == gs f 1) && ((e2 == gs f 2) && true)), q2 ?_, q1 ?_, qr ?_⟩ <;> rw [e_]
      · repeat (first | refine Tot.t (by rfl) ?_ | refine Tot.f (by rfl) ?_)
        exact Tot.cond (fun g => Tot.ret (by rw [g]; rfl)) (fun g => Tot.ret (by rw [g]; rfl))
      · repeat (first | refine Tot.t (by rfl) ?_ | refine Tot.f (by rfl) ?_)
        exact Tot.cond (fun g => Tot.ret (by rw [g]; rfl)) (fun g => Tot.ret (by rw [g]; rfl))
      · repeat (first | refine Tot.t (by rfl) ?_ | refine Tot.f (by rfl) ?_)
        refine Tot.cond (fun g => Tot.ret ?_) (fun g => ?_)
        · have g : (ek == 1) = false := by simpa using g
          rw [g]; rfl
        · have g : (ek == 1) = true := by simpa using g
          rw [g]
          repeat (first | refine Tot.t (by rfl) ?_ | refine Tot.f (by rfl) ?_)
          exact Tot.ret rfl
    · refine ⟨ab ek r, q2 ?_, q1 ?_, qr ?_⟩ <;> rw [e_]
      · repeat (first | refine Tot.t (by rfl) ?_ | refine Tot.f (by rfl) ?_)
        exact Tot.bind at2 fun x hx => Tot.ret (by rw [hx])
      · repeat (first | refine Tot.t (by rfl) ?_ | refine Tot.f (by rfl) ?_)
        exact Tot.bind at1 fun x hx => Tot.ret (by rw [hx])
      · repeat (first | refine Tot.t (by rfl) ?_ | refine Tot.f (by rfl) ?_)
        refine Tot.cond (fun g => Tot.ret ?_) (fun g => ?_)
        · have g : (ek == 1) = false := by simpa using g
          unfold ab
          split
          · rfl
          · exact g.symm
        · have g : (ek == 1) = true := by simpa using g
          repeat (first | refine Tot.t (by rfl) ?_ | refine Tot.f (by rfl) ?_)
          refine (ra hr 5 (by omega)).mono fun x hx => ?_
          rw [hx]
          unfold ab
          rw [g]
          split <;> rfl
    · refine ⟨ab ek r && ((av ea r).toList == (gs f 3).toList), q2 ?_, q1 ?_, qr ?_⟩ <;> rw [e_]
      · repeat (first | refine Tot.t (by rfl) ?_ | refine Tot.f (by rfl) ?_)
        refine Tot.bind at2 fun x hx => ?_
        subst hx
        exact Tot.cond (fun g => Tot.ret (by have g : ab ek r = true := g; rw [g]; rfl)) (fun g => Tot.ret (by have g : ab ek r = false := g; rw [g]; rfl))
      · repeat (first | refine Tot.t (by rfl) ?_ | refine Tot.f (by rfl) ?_)
        refine Tot.bind at1 fun x hx => ?_
        subst hx
        exact Tot.cond (fun g => Tot.ret (by have g : ab ek r = true := g; rw [g]; rfl)) (fun g => Tot.ret (by have g : ab ek r = false := g; rw [g]; rfl))
      · repeat (first | refine Tot.t (by rfl) ?_ | refine Tot.f (by rfl) ?_)
        refine Tot.cond (fun g => Tot.ret ?_) (fun g => ?_)
        · have g : (ek == 1) = false := by simpa using g
          unfold ab
          rw [g]
          split <;> rfl
        · have g : (ek == 1) = true := by simpa using g
          repeat (first | refine Tot.t (by rfl) ?_ | refine Tot.f (by rfl) ?_)
          refine (ra hr 6 (by omega)).mono fun x hx => ?_
          rw [hx]
          unfold ab
          rw [g]
          split <;> rfl
    · refine ⟨!(ek == 1) && (et.toList == (gs f 3).toList), q2 ?_, q1 ?_, qr ?_⟩ <;> rw [e_]
      · repeat (first | refine Tot.t (by rfl) ?_ | refine Tot.f (by rfl) ?_)
        exact Tot.cond (fun g => Tot.ret (by rw [g]; rfl)) (fun g => Tot.ret (by rw [g]; rfl))
      · repeat (first | refine Tot.t (by rfl) ?_ | refine Tot.f (by rfl) ?_)
        exact Tot.cond (fun g => Tot.ret (by rw [g]; rfl)) (fun g => Tot.ret (by rw [g]; rfl))
      · repeat (first | refine Tot.t (by rfl) ?_ | refine Tot.f (by rfl) ?_)
        refine Tot.cond (fun g => ?_) (fun g => Tot.ret (by rw [g]; rfl))
        rw [g]
        repeat (first | refine Tot.t (by rfl) ?_ | refine Tot.f (by rfl) ?_)
        exact Tot.ret rfl
    · have hl := h8 e_
      have e8 : (decide (∃ j, j < (gr f 4).length ∧ bs j = false) == ((8 : Int) == 8)) = !(bs 0) := by
        have : (∃ j, j < (gr f 4).length ∧ bs j = false) ↔ bs 0 = false := ⟨fun ⟨j, a, b⟩ => by rw [show j = 0 by omega] at b; exact b, fun h => ⟨0, by omega, h⟩⟩
        rw [show ((8 : Int) == 8) = true from rfl]
        cases hb : bs 0
        · rw [decide_eq_true (this.2 hb)]; rfl
        · rw [decide_eq_false (fun h => by rw [this.1 h] at hb; cases hb)]; rfl
      refine ⟨!(bs 0), q2 ?_, q1 ?_, qr ?_⟩ <;> rw [e_]
      · repeat (first | refine Tot.t (by rfl) ?_ | refine Tot.f (by rfl) ?_)
        exact Tot.bind c2 fun x hx => Tot.ret (by rw [hx]; exact e8)
      · repeat (first | refine Tot.t (by rfl) ?_ | refine Tot.f (by rfl) ?_)
        exact Tot.bind c2 fun x hx => Tot.ret (by rw [hx, e8])
      · repeat (first | refine Tot.t (by rfl) ?_ | refine Tot.f (by rfl) ?_)
        refine Tot.t (decide_eq_true (by omega)) ?_
        exact Tot.bind (hbs 0 (by omega)).rf fun x hx => Tot.ret (by rw [hx])
    · have e9 : (decide (∃ j, j < (gr f 4).length ∧ bs j = false) == ((9 : Int) == 8)) = decide (∀ j, j < (gr f 4).length → bs j = true) := by
        rw [show ((9 : Int) == 8) = false from rfl]
        by_cases hb : ∃ j, j < (gr f 4).length ∧ bs j = false
        · rw [decide_eq_true hb]
          obtain ⟨j, a, b⟩ := hb
          rw [decide_eq_false (fun h => by rw [h j a] at b; cases b)]
          rfl
        · rw [decide_eq_false hb, decide_eq_true (fun j hj => by
            cases hbj : bs j
            · exact absurd ⟨j, hj, hbj⟩ hb
            · rfl)]
          rfl
      refine ⟨decide (∀ j, j < (gr f 4).length → bs j = true), q2 ?_, q1 ?_, qr ?_⟩ <;> rw [e_]
      · repeat (first | refine Tot.t (by rfl) ?_ | refine Tot.f (by rfl) ?_)
        exact Tot.bind c2 fun x hx => Tot.ret (by rw [hx]; exact e9)
      · repeat (first | refine Tot.t (by rfl) ?_ | refine Tot.f (by rfl) ?_)
        exact Tot.bind c2 fun x hx => Tot.ret (by rw [hx, e9])
      · repeat (first | refine Tot.t (by rfl) ?_ | refine Tot.f (by rfl) ?_)
        exact (rl 9).mono fun x hx => hx
    · refine ⟨decide (∃ j, j < (gr f 4).length ∧ bs j = true), q2 ?_, q1 ?_, qr ?_⟩ <;> rw [e_]
      · repeat (first | refine Tot.t (by rfl) ?_ | refine Tot.f (by rfl) ?_)
        exact Tot.bind c3 fun x hx => Tot.ret hx
      · repeat (first | refine Tot.t (by rfl) ?_ | refine Tot.f (by rfl) ?_)
        exact Tot.bind c3 fun x hx => Tot.ret (by rw [hx])
      · repeat (first | refine Tot.t (by rfl) ?_ | refine Tot.f (by rfl) ?_)
        exact (rl 10).mono fun x hx => hx
    · have hl := h511.1 e_
      obtain ⟨b, hb1, hb2⟩ := Xz (n := n) (s := s) (e := e) (E := E) (T := T) (ek := ek) (e1 := e1) (e2 := e2) (et := et) hc ((gr f 5).getD 0 []) ((hs.gr 5).get 0)
      have c5 : Tot (fun k _ _ => (lv k).Co (gr f 5) D B K n s e E T ek e1 e2 ea et bits) (fun r => r = b) := by
        refine Co_up _ _ _ _ _ _ _ _ _ _ _ _ _ _ _ (Tot.congr ?_ (fun k _ _ => Co_q (lv k) k (gr f 5) D B K n s e E T ek e1 e2 ea et bits))
        refine Tot.bind (R := Fst (gr f 5).length (fun j => b = true)) ?_ fun r hr => Tot.ret ?_
        · refine B8_up _ _ _ _ _ _ _ _ _ _ _ _ _ _ _ (Tot.congr ?_ (fun k _ _ => B8_q (lv k) k (gr f 5) D B K n s e E T ek e1 e2 ea et bits))
          refine Tot.in0 (Tot.first (H := fun k p q v => B8_l0 (lv k) k (gr f 5) D B K n s e E T ek e1 e2 ea et bits p v) (n := (gr f 5).length) (by omega) ?_ (fun i Q hi hy hn => ?_))
          · refine Tot.step0 (fun k p_ q_ => B8_l0_q (lv k) k (gr f 5) D B K n s e E T ek e1 e2 ea et bits p_ _) ?_
            exact Tot.f (decide_eq_false (by omega)) (Tot.ret rfl)
          · refine Tot.step0 (fun k p_ q_ => B8_l0_q (lv k) k (gr f 5) D B K n s e E T ek e1 e2 ea et bits p_ _) ?_
            rw [Int.toNat_natCast]
            repeat (refine Tot.t (decide_eq_true (by omega)) ?_)
            obtain rfl : i = 0 := by omega
            refine Tot.bind hb1 fun x hx => ?_
            subst hx
            exact Tot.cond (fun h => Tot.ret (hy h)) (fun h => hn (by rw [h]; simp))
        · rcases hr with ⟨rfl, hh⟩ | ⟨i, rfl, g1, g2, g3⟩
          · have := hh 0 (by omega)
            rw [decide_eq_false (by omega)]
            cases b
            · rfl
            · exact absurd rfl this
          · rw [g2]; exact decide_eq_true (by omega)
      refine ⟨b, q2 ?_, q1 ?_, qr ?_⟩ <;> rw [e_]
      · repeat (first | refine Tot.t (by rfl) ?_ | refine Tot.f (by rfl) ?_)
        exact Tot.bind c5 fun x hx => Tot.ret hx
      · repeat (first | refine Tot.t (by rfl) ?_ | refine Tot.f (by rfl) ?_)
        exact Tot.bind c5 fun x hx => Tot.ret (by rw [hx])
      · repeat (first | refine Tot.t (by rfl) ?_ | refine Tot.f (by rfl) ?_)
        exact Tot.t (decide_eq_true (by omega)) hb2
end
theorem Na : Try.prog.bytesOf 4 ≤ 1024 := of_decide_eq_true (by kernel_rfl)
theorem Px : Try.prog.bytesOf 5 ≤ 1024 := of_decide_eq_true (by kernel_rfl)
structure OkF (f : List C) : Prop where
  ok : ok 16 false f
  sm : SmR BB f
theorem OkF.nf {f : List C} (h : OkF f) : OkF (nf f) := ⟨h.ok, fun c hc => by
  have h1 := h.ok.1
  have h2 := h.ok.2.1
  simp only [Go.Vm.T.nf, List.mem_cons, List.not_mem_nil, or_false] at hc
  rcases hc with rfl | rfl | rfl | rfl | rfl | rfl
  · exact .int _ _ (T0 (by omega) (by omega))
  · exact .str _ (h.sm.gs 1)
  · exact .str _ (h.sm.gs 2)
  · exact .str _ (h.sm.gs 3)
  · exact .row _ _ (h.sm.gr 4).1 (h.sm.gr 4).2
  · exact .row _ _ (h.sm.gr 5).1 (h.sm.gr 5).2⟩
theorem Abu {f : List C → Int → Int → Mk} {p : List C → Prop} {t : Int} : ∀ {l : LL} {m : Mk}, (∀ r, r ∈ l → ∀ n t x, x ∈ (f r n t).T → p x) → (∀ x, x ∈ m.T → p x) → ∀ x, x ∈ (Er f t l m).T → p x := by
  intro l
  induction l with
  | nil => intro m _ h; exact h
  | cons r l ih =>
    intro m hf hm
    refine ih (fun r hr => hf r (List.mem_cons_of_mem _ hr)) (fun x hx => ?_)
    rcases List.mem_append.1 hx with h | h
    · exact hm x h
    · exact hf r List.mem_cons_self _ _ x h
theorem Uj {f : List C → Int → Int → Mk} {p : List C → Prop} {t s : Int} : ∀ {l : LL} {m : Al}, (∀ r, r ∈ l → ∀ n t x, x ∈ (f r n t).T → p x) → (∀ x, x ∈ m.T → p x) → ∀ x, x ∈ (Dv f t s l m).T → p x := by
  intro l
  induction l with
  | nil => intro m _ h; exact h
  | cons r l ih =>
    intro m hf hm
    refine ih (fun r hr => hf r (List.mem_cons_of_mem _ hr)) (fun x hx => ?_)
    rcases List.mem_append.1 hx with h | h
    · exact hm x h
    · exact hf r List.mem_cons_self _ _ x h
theorem Yf : ∀ d, d ≤ 16 → ∀ (a : List C), ok d true a → SmR BB a → ∀ (n t : Int) x, x ∈ (mk d (gi a 0) (gr a 1) (gr a 2) n t).T → OkF x := by
  intro d
  induction d with
  | zero => intro _ a h; exact h.elim
  | succ d ih =>
    intro hd a ha hs n t x hx
    obtain ⟨_, _, _, _, _, _, _, _, h9, h10⟩ := ha
    have hsub : ∀ r, r ∈ gr a 1 → ∀ n t x, x ∈ (mk d (gi r 0) (gr r 1) (gr r 2) n t).T → OkF x := fun r hr n t => by
      obtain ⟨i, hi, rfl⟩ := Ge hr
      exact ih (by omega) _ (h9 i hi) ((hs.gr 1).get i) n t
    have htest : ∀ x, x ∈ gr a 2 → OkF x := fun x hx => by
      obtain ⟨i, hi, rfl⟩ := Ge hx
      exact ⟨N3 (by omega) (h10 i hi), (hs.gr 2).get i⟩
    unfold mk at hx
    split at hx
    · split at hx
      · cases hx
      · rename_i r l hrl
        exact Abu (fun r hr => hsub r (by rw [hrl]; exact List.mem_cons_of_mem _ hr)) (hsub r (by rw [hrl]; exact List.mem_cons_self) _ _) x hx
    · split at hx
      · exact Uj hsub (fun x hx => by cases hx) x hx
      · split at hx
        · split at hx
          · cases hx
          · rename_i r l hrl
            exact hsub r (by rw [hrl]; exact List.mem_cons_self) _ _ x hx
        · split at hx
          · exact htest x hx
          · cases hx
theorem Rh {p : List C} (h : Cg p) : ∀ x, x ∈ (Bo p).T.map nf → OkF x := fun x hx => by
  obtain ⟨y, hy, rfl⟩ := List.mem_map.1 hx
  exact (Yf 16 (Nat.le_refl _) p h.ok h.sm 0 0 y hy).nf
def fl : Nat → Bool → List C → LL
  | 0, _, _ => []
  | d + 1, true, a => (gr a 1).flatMap (fl d true) ++ (gr a 2).flatMap (fl d false)
  | d + 1, false, a => [nf a] ++ (gr a 4).flatMap (fl d false) ++ (gr a 5).flatMap (fl d true)
theorem Tl {D : LL} (hg : ∀ x, x ∈ D → Cg x) {i : Nat} (hi : i < D.length) : B1 (D.take i) + nst (D.getD i []) ≤ B1 D := by
  have e : D = D.take (i + 1) ++ D.drop (i + 1) := (List.take_append_drop _ _).symm
  have h1 : B1 D = B1 (D.take (i + 1)) + B1 (D.drop (i + 1)) := by rw [← J1, ← e]
  have h2 := (Gk (l := D.drop (i + 1)) fun x hx => hg x (List.mem_of_mem_drop hx)).1
  rw [I1 hi, J1] at h1
  have h3 : B1 [D.getD i []] = nst (D.getD i []) := by simp [B1]
  omega
theorem Wm (l : LL) (hl : l.length ≤ 1048576) (h3 : ∀ i, (gr (l.getD i []) 3).length ≤ 1048576) : Tot (fun k _ _ => (lv k).Be l) (fun _ => True) := by
  refine Be_up _ (Tot.congr ?_ (fun k _ _ => Be_q (lv k) k l))
  refine Tot.in0 (Tot.loop (H := fun k p q v w => Be_l0 (lv k) k l p w v) (n := l.length) (fun i _ => True) (by omega) (fun w _ => ?_) (fun i w hi _ next => ?_) _ 0 _ rfl (by omega) trivial)
  · refine Tot.step0 (fun k p_ q_ => Be_l0_q (lv k) k l p_ _ _) ?_
    exact Tot.f (decide_eq_false (by omega)) (Tot.ret trivial)
  · have hli : (gr (l.getD i []) 3).length ≤ 1048576 := h3 i
    refine Tot.step0 (fun k p_ q_ => Be_l0_q (lv k) k l p_ _ _) ?_
    rw [Int.toNat_natCast]
    refine Tot.t (decide_eq_true (by omega)) (Tot.cond (fun _ => ?_) (fun _ => Tot.ret trivial))
    repeat (refine Tot.t (decide_eq_true (by omega)) ?_)
    refine Tot.cond (fun _ => Tot.ret trivial) (fun _ => ?_)
    repeat (refine Tot.t (decide_eq_true (by omega)) ?_)
    refine Tot.cond (fun _ => Tot.ret trivial) (fun _ => ?_)
    repeat (refine Tot.t (decide_eq_true (by omega)) ?_)
    refine Tot.cond (fun _ => Tot.ret trivial) (fun _ => ?_)
    generalize IntKind.i64.wrap (w + ((gr (l.getD i []) 3).length : Int)) = w'
    refine Tot.in1 (Tot.loop (H := fun k p q v (_ : Unit) => Be_l1 (lv k) k l p q w' (i : Int) v) (n := (gr (l.getD i []) 3).length) (fun i _ => True) (by omega) (fun _ _ => ?_) (fun j _ hj _ nx => ?_) _ 0 () rfl (by omega) trivial)
    · refine Tot.step1 (fun k p_ q_ => Be_l1_q (lv k) k l p_ q_ _ _ _) ?_
      rw [Int.toNat_natCast]
      repeat (refine Tot.t (decide_eq_true (by omega)) ?_)
      exact Tot.f (decide_eq_false (by omega)) (next _ trivial)
    · refine Tot.step1 (fun k p_ q_ => Be_l1_q (lv k) k l p_ q_ _ _ _) ?_
      rw [Int.toNat_natCast, Int.toNat_natCast]
      repeat (refine Tot.t (decide_eq_true (by omega)) ?_)
      refine Tot.cond (fun _ => ?_) (fun _ => next _ trivial)
      repeat (refine Tot.t (decide_eq_true (by omega)) ?_)
      refine Tot.cond (fun _ => Tot.ret trivial) (fun _ => ?_)
      repeat (refine Tot.t (decide_eq_true (by omega)) ?_)
      refine Tot.cond (fun _ => Tot.ret trivial) (fun _ => ?_)
      repeat (refine Tot.t (decide_eq_true (by omega)) ?_)
      exact Tot.cond (fun _ => Tot.ret trivial) (fun _ => nx () trivial)
theorem V7 {p ea bits : LL} {q : List C} (h : Cg q) (hb : (bits.length : Int) = B1 (DD q)) (hl : ea.length ≤ 1048576) : Ctx (DD q) ((DD q).map Cu) (Ca 0 (DD q)) ea bits := by
  have hg := h.ded.good
  have hlen : (DD q).length ≤ 63 := Nat.le_trans h.ded.len h.len
  have hs := Gk hg
  refine ⟨hg, by omega, by simp, M8 _ _, fun i hi => ?_, by omega, hl⟩
  have hgi := hg _ (D1 (d := []) hi)
  have h1 := N0 16 _ _ _ 0 0 hgi.pok
  have h2 := Tl hg hi
  have h3 := (Gk (Mb hg i)).1
  have e1 : ((DD q).map Cu).getD i [] = Cu ((DD q).getD i []) := by simp [List.getD_eq_getElem?_getD, hi]
  rw [Pk _ _ _ hi, e1, Int.zero_add, hb]
  have h4 := h1.s0
  have h5 := h1.s1
  show 0 ≤ B1 ((DD q).take i) + (Bo ((DD q).getD i [])).s ∧ B1 ((DD q).take i) + (Bo ((DD q).getD i [])).s < _
  unfold nst at h2
  unfold Bo at h2 ⊢
  omega
def bt (out : LL) (q : Int) : Bool := gb (out.getD q.toNat []) 0
def Hi (out : LL) (q : Int) : LL := out.set q.toNat ((out.getD q.toNat []).set 0 (C.bool true))
def BOk (N : Int) (out : LL) : Prop := (out.length : Int) = N ∧ ∀ r, r ∈ out → ∃ b, r = [C.bool b]
theorem Vb {N q : Int} {out : LL} (h : BOk N out) (h0 : 0 ≤ q) (h1 : q < N) : BOk N (Hi out q) := by
  obtain ⟨hl, hr⟩ := h
  have hlt : q.toNat < out.length := by omega
  refine ⟨by rw [Hi, List.length_set]; exact hl, fun r hm => ?_⟩
  rcases List.mem_or_eq_of_mem_set hm with hm | rfl
  · exact hr r hm
  · obtain ⟨b, hb⟩ := hr _ (D1 (d := []) hlt)
    exact ⟨true, by rw [hb]; rfl⟩
theorem Lq {N q p : Int} {out : LL} (h : BOk N out) (h0 : 0 ≤ q) (h1 : q < N) (hp : 0 ≤ p) : bt (Hi out q) p = (decide (p = q) || bt out p) := by
  obtain ⟨hl, hr⟩ := h
  have hlt : q.toNat < out.length := by omega
  obtain ⟨b, hb⟩ := hr _ (D1 (d := []) hlt)
  by_cases e : p = q
  · subst e
    rw [decide_eq_true rfl, Bool.true_or]
    unfold bt Hi
    rw [hb, List.getD_eq_getElem?_getD, List.getElem?_set_self hlt]
    rfl
  · rw [decide_eq_false e, Bool.false_or]
    unfold bt Hi
    rw [List.getD_eq_getElem?_getD, List.getElem?_set_ne (by omega), ← List.getD_eq_getElem?_getD]
def cnt (out : LL) : Nat := out.countP fun r => !gb r 0
section
variable (E hs fs : LL)
def en (r : List C) : Prop := gi r 2 = 0 ∨ (gi r 2 = 3 ∧ bt hs (gi r 3) = true)
inductive Fi : Int → Prop where
  | base {f : List C} : f ∈ fs → Fi (gi f 0)
  | step {r : List C} : Fi (gi r 0) → r ∈ E → en hs r → Fi (gi r 1)
structure MOk (N : Int) : Prop where
  n0 : 0 ≤ N
  n1 : N ≤ 1000
  e : E.length ≤ 1000
  ed : ∀ r, r ∈ E → 0 ≤ gi r 0 ∧ gi r 0 < N ∧ 0 ≤ gi r 1 ∧ gi r 1 < N ∧ (gi r 2 = 3 → 0 ≤ gi r 3 ∧ gi r 3 < hs.length)
  f : ∀ f, f ∈ fs → 0 ≤ gi f 0 ∧ gi f 0 < N
  fl : fs.length ≤ 1000000
def has (out W : LL) (q : Int) : Prop := bt out q = true ∨ ∃ w, w ∈ W ∧ gi w 0 = q
def F0 (N : Int) (out : LL) : Prop := BOk N out ∧ ∀ q : Int, 0 ≤ q → (bt out q = true ↔ Fi E hs fs q)
end
variable {E hs fs : LL} {N : Int}
theorem Sq (h : MOk E hs fs N) {q : Int} (hr : Fi E hs fs q) : 0 ≤ q ∧ q < N := by
  cases hr with
  | base hf => exact h.f _ hf
  | step _ hr _ => have := h.ed _ hr; exact ⟨this.2.2.1, this.2.2.2.1⟩
theorem Xp : D4 Try.prog 54 4 = true := by kernel_rfl
theorem V4 : ∀ {l l' : LL}, l.length = l'.length → (∀ i, gb (l.getD i []) 0 = true → gb (l'.getD i []) 0 = true) → cnt l' ≤ cnt l ∧ ((∃ i, i < l.length ∧ gb (l.getD i []) 0 = false ∧ gb (l'.getD i []) 0 = true) → cnt l' < cnt l) := by
  intro l
  induction l with
  | nil => intro l' h _; cases l' with
    | nil => exact ⟨Nat.le_refl _, fun ⟨i, hi, _⟩ => by simp at hi⟩
    | cons _ _ => simp at h
  | cons x l ih =>
    intro l' h hs
    cases l' with
    | nil => simp at h
    | cons y l' =>
      obtain ⟨h1, h2⟩ := ih (l' := l') (by simpa using h) (fun i => hs (i + 1))
      have h0 : gb x 0 = true → gb y 0 = true := hs 0
      unfold cnt at *
      rw [List.countP_cons, List.countP_cons]
      constructor
      · cases hx : gb x 0 with
        | true => rw [h0 hx]; simpa using h1
        | false => cases gb y 0 <;> simp <;> omega
      · rintro ⟨i, hi, ha, hb⟩
        cases i with
        | zero =>
          have ha : gb x 0 = false := ha
          have hb : gb y 0 = true := hb
          rw [ha, hb]
          simp
          omega
        | succ i =>
          have := h2 ⟨i, by simpa using hi, ha, hb⟩
          cases hx : gb x 0 with
          | true => rw [h0 hx]; simpa using this
          | false => cases gb y 0 <;> simp <;> omega
section
variable (E hs fs : LL) (N : Int)
structure Hr (out : LL) : Prop where
  ok : BOk N out
  sound : ∀ p, 0 ≤ p → bt out p = true → Fi E hs fs p
def sub (a b : LL) : Prop := ∀ p, 0 ≤ p → bt a p = true → bt b p = true
end
variable {E hs fs : LL} {N : Int}
theorem Ss (hm : MOk E hs fs N) {out : LL} {q : Int} (h : Hr E hs fs N out) (hr : Fi E hs fs q) : Hr E hs fs N (Hi out q) := by
  obtain ⟨h0, h1⟩ := Sq hm hr
  refine ⟨Vb h.ok h0 h1, fun p hp hb => ?_⟩
  rw [Lq h.ok h0 h1 hp] at hb
  by_cases e : p = q
  · rw [e]; exact hr
  · rw [decide_eq_false e, Bool.false_or] at hb
    exact h.sound p hp hb
theorem Tk (hm : MOk E hs fs N) {out : LL} {q : Int} (h : Hr E hs fs N out) (hr : Fi E hs fs q) : sub out (Hi out q) := fun p hp hb => by
  obtain ⟨h0, h1⟩ := Sq hm hr
  rw [Lq h.ok h0 h1 hp, hb, Bool.or_true]
theorem Ng {out : LL} (hm : MOk E hs fs N) (h : Hr E hs fs N out) (hb : ∀ f, f ∈ fs → bt out (gi f 0) = true) (hc : ∀ r, r ∈ E → en hs r → bt out (gi r 0) = true → bt out (gi r 1) = true) : F0 E hs fs N out := by
  refine ⟨h.ok, fun p hp => ⟨h.sound p hp, fun hr => ?_⟩⟩
  clear hp
  induction hr with
  | base hf => exact hb _ hf
  | step h1 h2 h3 ih => exact hc _ h2 h3 ih
theorem So {n s e : Int} (hm : MOk E hs fs n) : Tot (fun k _ _ => (lv k).Ax n s e E [] fs hs) (F0 E hs fs n) ∧ ∀ T, Tot (fun k _ _ => (lv k).Ax n s e E T fs hs) (F0 E hs fs n) := by
  have key : ∀ T, Tot (fun k _ _ => (lv k).Ax n s e E T fs hs) (F0 E hs fs n) := by
    intro T
    have hn0 := hm.n0
    have hn1 := hm.n1
    have hel := hm.e
    have hfl := hm.fl
    have pass : ∀ (v1 : Int) (out0 : LL), (∀ out, Hr E hs fs n out → sub out0 out → (∀ r, r ∈ E → en hs r → bt out0 (gi r 0) = true → bt out (gi r 1) = true) → Tot (fun k a b => Ax_l1 (lv k) k n s e E T fs hs a (IntKind.i64.wrap (v1 + 1)) out) (F0 E hs fs n)) →
        ∀ (d i : Nat) (out : LL), E.length - i = d → i ≤ E.length → Hr E hs fs n out → sub out0 out → (∀ r, r ∈ E.take i → en hs r → bt out0 (gi r 0) = true → bt out (gi r 1) = true) → Tot (fun k a b => Ax_l2 (lv k) k n s e E T fs hs a b v1 i out) (F0 E hs fs n) := by
      intro v1 out0 hend d
      induction d with
      | zero =>
        intro i out hd hi hr hsb hst
        obtain rfl : i = E.length := by omega
        refine Tot.step1 (fun k a b => Ax_l2_q (lv k) k n s e E T fs hs a b v1 (E.length : Int) out) ?_
        rw [List.take_length] at hst
        exact Tot.f (decide_eq_false (by omega)) (hend out hr hsb hst)
      | succ d ihd =>
        intro i out hd hi hr hsb hst
        have hlt : i < E.length := by omega
        have hol : (out.length : Int) = n := hr.ok.1
        have hin : ((i : Int) + 1) = ((i + 1 : Nat) : Int) := by omega
        have hmem : E.getD i [] ∈ E := D1 hlt
        obtain ⟨f0, f1, t0, t1, hk⟩ := hm.ed _ hmem
        have htake : ∀ r, r ∈ E.take (i + 1) → r ∈ E.take i ∨ r = E.getD i [] := fun r h => by
          rw [List.take_add_one, List.getElem?_eq_getElem hlt] at h
          rcases List.mem_append.1 h with h | h
          · exact .inl h
          · exact .inr (by rw [List.getD_eq_getElem?_getD, List.getElem?_eq_getElem hlt]; simpa using h)
        have no : ¬ (en hs (E.getD i []) ∧ bt out (gi (E.getD i []) 0) = true) → Tot (fun k a b => Ax_l2 (lv k) k n s e E T fs hs a b v1 ((i + 1 : Nat) : Int) out) (F0 E hs fs n) := fun hno =>
          ihd (i + 1) out (by omega) (by omega) hr hsb fun r h he hb => by
            rcases htake r h with h | rfl
            · exact hst r h he hb
            · exact absurd ⟨he, hsb _ f0 hb⟩ hno
        have yes : en hs (E.getD i []) → bt out (gi (E.getD i []) 0) = true → Tot (fun k a b => Ax_l2 (lv k) k n s e E T fs hs a b v1 ((i + 1 : Nat) : Int) (Hi out (gi (E.getD i []) 1))) (F0 E hs fs n) := fun he hb => by
          have hreach : Fi E hs fs (gi (E.getD i []) 1) := .step (hr.sound _ f0 hb) hmem he
          have hss := Tk hm hr hreach
          refine ihd (i + 1) _ (by omega) (by omega) (Ss hm hr hreach) (fun p hp h => hss p hp (hsb p hp h)) fun r h he hb => ?_
          rcases htake r h with h | rfl
          · exact hss _ (hm.ed r (List.mem_of_mem_take h)).2.2.1 (hst r h he hb)
          · rw [Lq hr.ok t0 t1 t0, decide_eq_true rfl, Bool.true_or]
        refine Tot.step1 (fun k a b => Ax_l2_q (lv k) k n s e E T fs hs a b v1 (i : Int) out) ?_
        rw [Ag (x := (i : Int) + 1) (by omega) (by omega), Int.toNat_natCast, hin]
        refine Tot.t (decide_eq_true (by omega)) (Tot.t (decide_eq_true (by omega)) (Tot.t (decide_eq_true (by omega)) (Tot.t (decide_eq_true f0) (Tot.t (decide_eq_true (by omega)) ?_))))
        refine Tot.cond (fun hb => ?_) (fun hb => no fun h => ?_)
        · refine Tot.cond (fun h2 => ?_) (fun h2 => ?_)
          · exact Tot.t (decide_eq_true t0) (Tot.t (decide_eq_true (by omega)) (yes (.inl (eq_of_beq h2)) hb))
          · have h2 := ne_of_beq_false h2
            refine Tot.cond (fun h3 => ?_) (fun h3 => no fun h => ?_)
            · have h3 := eq_of_beq h3
              have ht := hk h3
              refine Tot.t (decide_eq_true ht.1) (Tot.t (decide_eq_true ht.2) (Tot.cond (fun h4 => Tot.t (decide_eq_true t0) (Tot.t (decide_eq_true (by omega)) (yes (.inr ⟨h3, h4⟩) hb))) (fun h4 => no fun h => ?_)))
              rcases h.1 with h5 | ⟨_, h5⟩
              · exact h2 h5
              · have h5 : gb (hs.getD (gi (E.getD i []) 3).toNat []) 0 = true := h5
                rw [h4] at h5; cases h5
            · rcases h.1 with h5 | ⟨h5, _⟩
              · exact h2 h5
              · exact ne_of_beq_false h3 h5
        · have h5 : gb (out.getD (gi (E.getD i []) 0).toNat []) 0 = true := h.2
          rw [hb] at h5; cases h5
    have rounds : ∀ (d : Nat) (v : Int) (out : LL), 0 ≤ v → (n - v).toNat = d → Hr E hs fs n out → (∀ f, f ∈ fs → bt out (gi f 0) = true) → (F0 E hs fs n out ∨ (cnt out : Int) ≤ n - v) → Tot (fun k a b => Ax_l1 (lv k) k n s e E T fs hs a v out) (F0 E hs fs n) := by
      intro d
      induction d with
      | zero =>
        intro v out hv hd hr hb hc
        refine Tot.step0 (fun k a b => Ax_l1_q (lv k) k n s e E T fs hs a v out) ?_
        refine Tot.f (decide_eq_false (by omega)) (Tot.ret ?_)
        rcases hc with hc | hc
        · exact hc
        · have h0 : cnt out = 0 := by omega
          refine Ng hm hr hb fun r hm' _ _ => ?_
          obtain ⟨_, _, t0, t1, _⟩ := hm.ed r hm'
          have hol : (out.length : Int) = n := hr.ok.1
          have h1 := List.countP_eq_zero.1 h0 _ (D1 (d := []) (show (gi r 1).toNat < out.length by omega))
          unfold bt
          simpa using h1
      | succ d ihd =>
        intro v out hv hd hr hb hc
        refine Tot.step0 (fun k a b => Ax_l1_q (lv k) k n s e E T fs hs a v out) ?_
        refine Tot.t (decide_eq_true (by omega)) (Tot.in1 (pass v out (fun out' hr' hsb hst => ?_) _ 0 out rfl (by omega) hr (fun _ _ h => h) (fun r h => by simp at h)))
        rw [Ag (x := v + 1) (by omega) (by omega)]
        have hb' : ∀ f, f ∈ fs → bt out' (gi f 0) = true := fun f hf => hsb _ (hm.f f hf).1 (hb f hf)
        refine ihd (v + 1) out' (by omega) (by omega) hr' hb' ?_
        have hlen : out.length = out'.length := by have := hr.ok.1; have := hr'.ok.1; omega
        have hpt : ∀ i, gb (out.getD i []) 0 = true → gb (out'.getD i []) 0 = true := fun i h => by
          have := hsb (i : Int) (by omega) (by unfold bt; rw [Int.toNat_natCast]; exact h)
          unfold bt at this
          rwa [Int.toNat_natCast] at this
        obtain ⟨c1, c2⟩ := V4 hlen hpt
        rcases hc with hc | hc
        · exact .inl (Ng hm hr' hb' fun r h1 h2 h3 => hsb _ (hm.ed r h1).2.2.1 ((hc.2 _ (hm.ed r h1).2.2.1).2 (.step ((hr'.sound _ (hm.ed r h1).1 h3)) h1 h2)))
        · by_cases hnew : ∃ i, i < out.length ∧ gb (out.getD i []) 0 = false ∧ gb (out'.getD i []) 0 = true
          · have := c2 hnew
            exact .inr (by omega)
          · refine .inl (Ng hm hr' hb' fun r h1 h2 h3 => ?_)
            refine hst r h1 h2 ?_
            obtain ⟨f0, f1, _⟩ := hm.ed r h1
            have hol : (out.length : Int) = n := hr.ok.1
            cases h4 : bt out (gi r 0) with
            | true => rfl
            | false => exact absurd ⟨(gi r 0).toNat, by omega, h4, h3⟩ hnew
    have start : ∀ (d i : Nat) (out : LL), fs.length - i = d → i ≤ fs.length → Hr E hs fs n out → (∀ f, f ∈ fs.take i → bt out (gi f 0) = true) → Tot (fun k a b => Ax_l0 (lv k) k n s e E T fs hs a i out) (F0 E hs fs n) := by
      intro d
      induction d with
      | zero =>
        intro i out hd hi hr hb
        obtain rfl : i = fs.length := by omega
        refine Tot.step0 (fun k a b => Ax_l0_q (lv k) k n s e E T fs hs a (fs.length : Int) out) ?_
        rw [List.take_length] at hb
        have hol : (out.length : Int) = n := hr.ok.1
        have hcl : cnt out ≤ out.length := List.countP_le_length
        exact Tot.f (decide_eq_false (by omega)) (Tot.in0 (rounds _ 0 out (by omega) rfl hr hb (.inr (by omega))))
      | succ d ihd =>
        intro i out hd hi hr hb
        have hlt : i < fs.length := by omega
        have hol : (out.length : Int) = n := hr.ok.1
        have hin : ((i : Int) + 1) = ((i + 1 : Nat) : Int) := by omega
        have hmem : fs.getD i [] ∈ fs := D1 hlt
        obtain ⟨f0, f1⟩ := hm.f _ hmem
        refine Tot.step0 (fun k a b => Ax_l0_q (lv k) k n s e E T fs hs a (i : Int) out) ?_
        rw [Ag (x := (i : Int) + 1) (by omega) (by omega), Int.toNat_natCast, hin]
        refine Tot.t (decide_eq_true (by omega)) (Tot.t (decide_eq_true (by omega)) (Tot.t (decide_eq_true (by omega)) (Tot.t (decide_eq_true f0) (Tot.t (decide_eq_true (by omega)) ?_))))
        have hreach : Fi E hs fs (gi (fs.getD i []) 0) := .base hmem
        refine ihd (i + 1) (Hi out (gi (fs.getD i []) 0)) (by omega) (by omega) (Ss hm hr hreach) fun f hf => ?_
        rw [List.take_add_one, List.getElem?_eq_getElem hlt] at hf
        rcases List.mem_append.1 hf with hf | hf
        · exact Tk hm hr hreach _ (hm.f f (List.mem_of_mem_take hf)).1 (hb f hf)
        · have hf : f = fs.getD i [] := by rw [List.getD_eq_getElem?_getD, List.getElem?_eq_getElem hlt]; simpa using hf
          subst hf
          rw [Lq hr.ok f0 f1 f0, decide_eq_true rfl, Bool.true_or]
    refine Ax_up _ _ _ _ _ _ _ (Tot.congr ?_ (fun k _ _ => Ax_q (lv k) k n s e E T fs hs))
    refine Tot.t (decide_eq_true hn0) (Tot.t (decide_eq_true (Int.le_refl _)) (Tot.both (D2 Na (by omega)) Xp ?_))
    have hok : BOk n (List.replicate n.toNat [C.bool false]) := ⟨by rw [List.length_replicate]; omega, fun r hr => ⟨false, List.eq_of_mem_replicate hr⟩⟩
    have hb : ∀ p, bt (List.replicate n.toNat [C.bool false]) p = false := fun p => by
      unfold bt
      rw [List.getD_eq_getElem?_getD, List.getElem?_replicate]
      split <;> rfl
    exact Tot.in0 (start _ 0 _ rfl (by omega) ⟨hok, fun p _ h => (by rw [hb] at h; cases h)⟩ (fun f hf => by simp at hf))
  exact ⟨key [], key⟩
def A3 {α : Type} (g : Nat → Nat → Nat → Nat → Option α) (Q : α → Prop) : Prop := ∃ r, Q r ∧ ∃ N, ∀ n a b c, N ≤ n → N ≤ a → N ≤ b → N ≤ c → g n a b c = some r
section
variable {α β : Type} {g h : Nat → Nat → Nat → Nat → Option α} {Q : α → Prop}
theorem A3.cond {c : Bool} (h1 : c = true → A3 g Q) (h2 : c = false → A3 h Q) : A3 (fun n a b d => _root_.cond c (g n a b d) (h n a b d)) Q := by
  cases c with
  | true => exact h1 rfl
  | false => exact h2 rfl
theorem A3.t {c : Bool} (hc : c = true) (h1 : A3 g Q) : A3 (fun n a b d => _root_.cond c (g n a b d) (h n a b d)) Q := by
  subst hc; exact h1
theorem A3.f {c : Bool} (hc : c = false) (h1 : A3 h Q) : A3 (fun n a b d => _root_.cond c (g n a b d) (h n a b d)) Q := by
  subst hc; exact h1
theorem A3.bind {f : Nat → Option β} {R : β → Prop} {k : Nat → Nat → Nat → Nat → β → Option α} (h1 : Tot (fun n _ _ => f n) R) (h2 : ∀ r, R r → A3 (fun n a b c => k n a b c r) Q) : A3 (fun n a b c => (f n).bind fun r => k n a b c r) Q := by
  obtain ⟨r, h3, N, h4⟩ := h1
  obtain ⟨s, h5, M, h6⟩ := h2 r h3
  refine ⟨s, h5, max N M, fun n a b c hn ha hb hc => ?_⟩
  have h4' : f n = some r := h4 n n n (by omega) (by omega) (by omega)
  show (f n).bind _ = _
  rw [h4']
  exact h6 n a b c (by omega) (by omega) (by omega) (by omega)
theorem A3.step {H : Nat → Nat → Nat → Nat → Option α} (he : ∀ n a b c, H n a b (c + 1) = g n a b c) (h : A3 g Q) : A3 H Q := by
  obtain ⟨r, h1, N, h2⟩ := h
  refine ⟨r, h1, N + 1, fun n a b c hn ha hb hc => ?_⟩
  obtain ⟨m, rfl⟩ : ∃ m, c = m + 1 := ⟨c - 1, by omega⟩
  rw [he]
  exact h2 n a b m (by omega) (by omega) (by omega) (by omega)
theorem A3.out {g : Nat → Nat → Nat → Option α} (h : Tot g Q) : A3 (fun n a b _ => g n a b) Q := by
  obtain ⟨r, h1, N, h2⟩ := h
  exact ⟨r, h1, N, fun n a b c hn ha hb _ => h2 n a b hn ha hb⟩
theorem Tot.in2 (h : A3 g Q) : Tot (fun n a b => g n a b n) Q := by
  obtain ⟨r, h1, N, h2⟩ := h
  exact ⟨r, h1, N, fun n a b hn ha hb => h2 n a b n hn ha hb hn⟩
theorem A3.loop {σ : Type} {H : Nat → Nat → Nat → Nat → Int → σ → Option α} {n : Nat} (Inv : Nat → σ → Prop) (hn : n ≤ 4611686018427387904)
    (fin : ∀ s, Inv n s → A3 (fun k a b c => H k a b c (n : Int) s) Q)
    (rnd : ∀ (i : Nat) s, i < n → Inv i s → (∀ s', Inv (i + 1) s' → A3 (fun k a b c => H k a b c (IntKind.i64.wrap ((i : Int) + 1)) s') Q) → A3 (fun k a b c => H k a b c (i : Int) s) Q) :
    ∀ (d i : Nat) s, n - i = d → i ≤ n → Inv i s → A3 (fun k a b c => H k a b c (i : Int) s) Q := by
  intro d
  induction d with
  | zero =>
    intro i s hd hi h
    obtain rfl : i = n := by omega
    exact fin s h
  | succ d ih =>
    intro i s hd hi h
    refine rnd i s (by omega) h fun s' h' => ?_
    rw [Ag (x := (i : Int) + 1) (by omega) (by omega), show (i : Int) + 1 = ((i + 1 : Nat) : Int) by omega]
    exact ih (i + 1) s' (by omega) (by omega) h'
end
def Kd (r : List C) : Prop := gi r 2 = 0 ∨ gi r 2 = 1 ∨ gi r 2 = 2 ∨ gi r 2 = 3
theorem Abt {f : List C → Int → Int → Mk} {t : Int} : ∀ {l : LL} {m : Mk}, (∀ r, r ∈ l → ∀ n t x, x ∈ (f r n t).E → Kd x) → (∀ x, x ∈ m.E → Kd x) → ∀ x, x ∈ (Er f t l m).E → Kd x := by
  intro l
  induction l with
  | nil => intro m _ h; exact h
  | cons r l ih =>
    intro m hf hm
    refine ih (fun r hr => hf r (List.mem_cons_of_mem _ hr)) (fun x hx => ?_)
    rcases List.mem_append.1 hx with h | h
    · exact hm x h
    · rcases List.mem_append.1 h with h | h
      · exact hf r List.mem_cons_self _ _ x h
      · rw [List.mem_singleton.1 h]; exact .inl rfl
theorem Ui {f : List C → Int → Int → Mk} {t s : Int} : ∀ {l : LL} {m : Al}, (∀ r, r ∈ l → ∀ n t x, x ∈ (f r n t).E → Kd x) → (∀ x, x ∈ m.E → Kd x) → ∀ x, x ∈ (Dv f t s l m).E → Kd x := by
  intro l
  induction l with
  | nil => intro m _ h; exact h
  | cons r l ih =>
    intro m hf hm
    refine ih (fun r hr => hf r (List.mem_cons_of_mem _ hr)) (fun x hx => ?_)
    rcases List.mem_append.1 hx with h | h
    · exact hm x h
    · rcases List.mem_append.1 h with h | h
      · exact hf r List.mem_cons_self _ _ x h
      · rw [List.mem_singleton.1 h]; exact .inl rfl
theorem Yg : ∀ (d : Nat) (op : Int) (subs tests : LL) (n t : Int), ∀ x, x ∈ (mk d op subs tests n t).E → Kd x := by
  intro d
  induction d with
  | zero => intro op subs tests n t x hx; cases hx
  | succ d ih =>
    intro op subs tests n t x hx
    have hf : ∀ r : List C, ∀ n t x, x ∈ (mk d (gi r 0) (gr r 1) (gr r 2) n t).E → Kd x := fun r n t => ih _ _ _ n t
    unfold mk at hx
    split at hx
    · split at hx
      · cases hx
      · exact Abt (fun r _ => hf r) (hf _ _ _) x hx
    · split at hx
      · rcases List.mem_append.1 hx with h | h
        · exact Ui (fun r _ => hf r) (fun x hx => by cases hx) x h
        · obtain ⟨b, _, rfl⟩ := List.mem_map.1 h
          exact .inl rfl
      · split at hx
        · split at hx
          · cases hx
          · rcases List.mem_append.1 hx with h | h
            · rcases List.mem_append.1 h with h | h
              · exact hf _ _ _ x h
              · rw [List.mem_singleton.1 h]; exact .inl rfl
            · rw [List.mem_singleton.1 h]; exact .inl rfl
        · split at hx
          · rw [List.mem_singleton.1 hx]; exact .inr (.inr (.inr rfl))
          · rw [List.mem_singleton.1 hx]
            show Kd (st4 n (n + 1) (Ha op) 0)
            unfold Ha
            split
            · exact .inr (.inl rfl)
            · split
              · exact .inr (.inr (.inl rfl))
              · exact .inl rfl
def one (h : Bool) (b : ByteArray) (at_ : Int) : Bool := h && (((b.data.getD at_.toNat 0).toNat : Int) == (1 : Int))
def exb (h1 : Bool) (b1 : ByteArray) (h2 : Bool) (b2 : ByteArray) (b : Int) (r : List C) : Bool := (gi r 2 == 1 && one h1 b1 (b + gi r 1)) || (gi r 2 == 2 && one h2 b2 (b + gi r 1))
def enb (hs : LL) (r : List C) : Bool := gi r 2 == 0 || (gi r 2 == 3 && bt hs (gi r 3))
theorem P8 {hs : LL} {r : List C} : enb hs r = true ↔ en hs r := by
  unfold enb en
  simp
inductive F3 (E hs : LL) (ex : List C → Bool) (e : Int) : Int → Prop where
  | fin : F3 E hs ex e e
  | ex {r : List C} : r ∈ E → ex r = true → F3 E hs ex e (gi r 0)
  | step {r : List C} : r ∈ E → en hs r → F3 E hs ex e (gi r 1) → F3 E hs ex e (gi r 0)
theorem Sp {E hs : LL} {r : List C} (hr : r ∈ E) (he : en hs r) {x : Int} (h : Fi E hs [[C.int .i64 (gi r 1)]] x) : Fi E hs [[C.int .i64 (gi r 0)]] x := by
  induction h with
  | base hf =>
    rw [List.mem_singleton.1 hf]
    exact .step (.base (f := [C.int .i64 (gi r 0)]) (List.mem_singleton.2 rfl)) hr he
  | step _ h2 h3 ih => exact .step ih h2 h3
theorem Xa {E hs : LL} {ex : List C → Bool} {e q : Int} : F3 E hs ex e q ↔ (Fi E hs [[C.int .i64 q]] e ∨ ∃ r, r ∈ E ∧ Fi E hs [[C.int .i64 q]] (gi r 0) ∧ ex r = true) := by
  constructor
  · intro h
    induction h with
    | fin => exact .inl (.base (f := [C.int .i64 e]) (List.mem_singleton.2 rfl))
    | ex h1 h2 => exact .inr ⟨_, h1, .base (f := [C.int .i64 _]) (List.mem_singleton.2 rfl), h2⟩
    | step h1 h2 _ ih =>
      rcases ih with ih | ⟨r, a, b, c⟩
      · exact .inl (Sp h1 h2 ih)
      · exact .inr ⟨r, a, Sp h1 h2 b, c⟩
  · have Fr : ∀ {x : Int}, Fi E hs [[C.int .i64 q]] x → F3 E hs ex e x → F3 E hs ex e q := fun h => by
      induction h with
      | base hf => intro g; rw [List.mem_singleton.1 hf] at g; exact g
      | step _ h2 h3 ih => intro g; exact ih (.step h2 h3 g)
    rintro (h | ⟨r, a, b, c⟩)
    · exact Fr h .fin
    · exact Fr b (.ex a c)
def upd (bits : LL) (b n : Int) (S : Int → Bool) : LL := (List.range bits.length).map fun (j : Nat) => if b ≤ (j : Int) ∧ (j : Int) < b + n ∧ S ((j : Int) - b) = true then [C.int .u8 1] else bits.getD j []
structure Zr (bits : LL) (b n : Int) : Prop where
  b0 : 0 ≤ b
  bn : b + n ≤ bits.length
  z : ∀ q, 0 ≤ q → q < n → bits.getD (b + q).toNat [] = [C.int .u8 0]
theorem E4 (bits : LL) (b n : Int) (S : Int → Bool) : (upd bits b n S).length = bits.length := by simp [upd]
theorem I4 {bits : LL} {b n : Int} {S : Int → Bool} {j : Nat} (h : j < bits.length) : (upd bits b n S).getD j [] = if b ≤ (j : Int) ∧ (j : Int) < b + n ∧ S ((j : Int) - b) = true then [C.int .u8 1] else bits.getD j [] := by
  unfold upd
  rw [List.getD_eq_getElem?_getD, List.getElem?_map, List.getElem?_range h]
  rfl
theorem Nm {a b : LL} (hl : a.length = b.length) (h : ∀ j, j < a.length → a.getD j [] = b.getD j []) : a = b := by
  refine List.ext_getElem hl fun j h1 h2 => ?_
  have := h j h1
  rw [List.getD_eq_getElem?_getD, List.getD_eq_getElem?_getD, List.getElem?_eq_getElem h1, List.getElem?_eq_getElem h2] at this
  exact this
theorem I3 {bits : LL} {b n : Int} {S S' : Int → Bool} (h : ∀ q, 0 ≤ q → q < n → S q = S' q) : upd bits b n S = upd bits b n S' := by
  refine Nm (by rw [E4, E4]) fun j hj => ?_
  rw [E4] at hj
  rw [I4 hj, I4 hj]
  by_cases h1 : b ≤ (j : Int)
  · by_cases h2 : (j : Int) < b + n
    · rw [h _ (by omega) (by omega)]
    · rw [if_neg (fun c => h2 c.2.1), if_neg (fun c => h2 c.2.1)]
  · rw [if_neg (fun c => h1 c.1), if_neg (fun c => h1 c.1)]
theorem Ov (bits : LL) (b n : Int) : upd bits b n (fun _ => false) = bits := by
  refine Nm (E4 _ _ _ _) fun j hj => ?_
  rw [E4] at hj
  rw [I4 hj, if_neg (fun c => by have := c.2.2; cases this)]
theorem Ot {bits : LL} {b n q : Int} {S : Int → Bool} (z : Zr bits b n) (h0 : 0 ≤ q) (h1 : q < n) : (upd bits b n S).getD (b + q).toNat [] = [C.int .u8 (if S q = true then 1 else 0)] := by
  have := z.b0
  have := z.bn
  rw [I4 (by omega), show (((b + q).toNat : Nat) : Int) = b + q by omega, show b + q - b = q by omega, z.z q h0 h1]
  by_cases h : S q = true
  · rw [if_pos ⟨by omega, by omega, h⟩, if_pos h]
  · rw [if_neg (fun c => h c.2.2), if_neg h]
theorem Ou {bits : LL} {b n q : Int} {S : Int → Bool} (z : Zr bits b n) (h0 : 0 ≤ q) (h1 : q < n) : gi ((upd bits b n S).getD (b + q).toNat []) 0 = if S q = true then 1 else 0 := by
  rw [Ot z h0 h1]
  rfl
theorem Ld {bits : LL} {b n q : Int} {S : Int → Bool} (z : Zr bits b n) (h0 : 0 ≤ q) (h1 : q < n) : (upd bits b n S).set (b + q).toNat (((upd bits b n S).getD (b + q).toNat []).set 0 (C.int .u8 1)) = upd bits b n (fun x => S x || decide (x = q)) := by
  have := z.b0
  have := z.bn
  refine Nm (by rw [List.length_set, E4, E4]) fun j hj => ?_
  rw [List.length_set, E4] at hj
  by_cases e : j = (b + q).toNat
  · subst e
    rw [Ot (S := fun x => S x || decide (x = q)) z h0 h1, Ot z h0 h1, List.getD_eq_getElem?_getD, List.getElem?_set_self (by rw [E4]; exact hj)]
    simp
  · rw [List.getD_eq_getElem?_getD, List.getElem?_set_ne (fun h => e h.symm), ← List.getD_eq_getElem?_getD, I4 hj, I4 hj]
    by_cases h2 : b ≤ (j : Int)
    · rw [decide_eq_false (show ¬ ((j : Int) - b = q) by omega), Bool.or_false]
    · rw [if_neg (fun c => h2 c.1), if_neg (fun c => h2 c.1)]
def Gp (n : Nat) (S : Int → Bool) : Nat := match n with
  | 0 => 0
  | n + 1 => Gp n S + (if S (n : Int) = true then 0 else 1)
theorem V2 {S S' : Int → Bool} (h : ∀ q, S q = true → S' q = true) : ∀ n, Gp n S' ≤ Gp n S := by
  intro n
  induction n with
  | zero => exact Nat.le_refl _
  | succ n ih =>
    unfold Gp
    by_cases h1 : S (n : Int) = true
    · rw [if_pos h1, if_pos (h _ h1)]; exact ih
    · rw [if_neg h1]; split <;> omega
theorem V3 {S S' : Int → Bool} (h : ∀ q, S q = true → S' q = true) {q : Int} (h0 : 0 ≤ q) (hn : S q = false) (hy : S' q = true) : ∀ n : Nat, q < n → Gp n S' < Gp n S := by
  intro n
  induction n with
  | zero => intro h1; omega
  | succ n ih =>
    intro h1
    have hle := V2 h n
    unfold Gp
    by_cases e : q = n
    · subst e
      rw [if_pos hy, if_neg (by rw [hn]; simp)]
      omega
    · have := ih (by omega)
      by_cases h2 : S (n : Int) = true
      · rw [if_pos h2, if_pos (h _ h2)]; omega
      · rw [if_neg h2]; split <;> omega
theorem Qv (h t : Bool) (b : ByteArray) (x : Int) (h0 : 0 ≤ x) (h1 : h = true → x < b.size) : Tot (fun k _ _ => (lv k).C3 h t b x) (fun r => r = one h b x) := by
  refine C3_up _ _ _ _ (Tot.congr ?_ (fun k _ _ => C3_q (lv k) k h t b x))
  refine Tot.cond (fun hh => Tot.t (decide_eq_true h0) (Tot.t (decide_eq_true (h1 hh)) (Tot.ret (by unfold one; rw [hh]; rfl)))) (fun hh => Tot.ret (by unfold one; rw [hh]; rfl))
section
variable {D B K E T ea : LL} {n s e ek : Int} {e1 e2 et : ByteArray} {h1 t1 h2 t2 : Bool} {b1 b2 : ByteArray}
open Classical in
noncomputable def hh (D B K : LL) (n s e : Int) (E T : LL) (ek : Int) (e1 e2 : ByteArray) (ea : LL) (et : ByteArray) (bits : LL) (f : List C) : Bool := if h : ∃ b, HH D B K n s e E T ek e1 e2 ea et bits f b then h.choose else false
theorem L5 {bits : LL} {f : List C} (h : ∃ b, HH D B K n s e E T ek e1 e2 ea et bits f b) : HH D B K n s e E T ek e1 e2 ea et bits f (hh D B K n s e E T ek e1 e2 ea et bits f) := by
  unfold hh
  rw [dif_pos h]
  exact h.choose_spec
noncomputable def Gc (D B K : LL) (n s e : Int) (E T : LL) (ek : Int) (e1 e2 : ByteArray) (ea : LL) (et : ByteArray) (bits TT : LL) : LL := TT.map fun f => [C.bool (hh D B K n s e E T ek e1 e2 ea et bits f)]
theorem L6 {bits TT : LL} {i : Nat} (h : i < TT.length) : Gc D B K n s e E T ek e1 e2 ea et bits (TT.take (i + 1)) = Gc D B K n s e E T ek e1 e2 ea et bits (TT.take i) ++ [[C.bool (hh D B K n s e E T ek e1 e2 ea et bits (TT.getD i []))]] := by
  rw [I1 h]
  simp [Gc]
theorem Nr {bits TT : LL} : (Gc D B K n s e E T ek e1 e2 ea et bits TT).length = TT.length := by simp [Gc]
theorem Acm (n' s' e' : Int) (E' : LL) {bits TT : LL} (hb : ∀ f, f ∈ TT → ∃ b, HH D B K n s e E T ek e1 e2 ea et bits f b) (hl : TT.length ≤ 1000) : Tot (fun k _ _ => (lv k).Bk D B K n s e E T n' s' e' E' TT ek e1 e2 ea et bits) (fun r => r = Gc D B K n s e E T ek e1 e2 ea et bits TT) := by
  refine Bk_up _ _ _ _ _ _ _ _ _ _ _ _ _ _ _ _ _ _ _ (Tot.congr ?_ (fun k _ _ => Bk_q (lv k) k D B K n s e E T n' s' e' E' TT ek e1 e2 ea et bits))
  refine Tot.in0 (g := fun k p_ q_ => Bk_l0 (lv k) k D B K n s e E T n' s' e' E' TT ek e1 e2 ea et bits p_ ) ?_
  refine Tot.step0 (fun k p_ q_ => Bk_l0_q (lv k) k D B K n s e E T n' s' e' E' TT ek e1 e2 ea et bits p_ ) ?_
  refine Tot.cond (fun h0 => ?_) (fun h0 => Tot.ret ?_)
  · have h0 := of_decide_eq_true h0
    have h0' : 0 < TT.length := by omega
    refine Tot.t (decide_eq_true (by omega)) ?_
    refine Tot.bind (L5 (hb _ (D1 (d := []) h0'))).p1 fun r hr => ?_
    subst hr
    refine Tot.loop (H := fun k q r v w => Bk_l1 (lv k) k D B K n s e E T n' s' e' E' TT ek e1 e2 ea et bits q v D B K n s e E T ek e1 e2 ea et bits w) (n := TT.length) (fun i w => w = Gc D B K n s e E T ek e1 e2 ea et bits (TT.take i)) (by omega) (fun w hw => ?_) (fun i w hi hw next => ?_) _ 1 _ rfl (by omega) (by rw [L6 h0']; rfl)
    · refine Tot.step0 (fun k p_ q_ => Bk_l1_q (lv k) k D B K n s e E T n' s' e' E' TT ek e1 e2 ea et bits p_ _ _ _ _ _ _ _ _ _ _ _ _ _ _ _ _) ?_
      rw [List.take_length] at hw
      exact Tot.f (decide_eq_false (by omega)) (Tot.ret hw)
    · have hwl : w.length ≤ 1000 := by rw [hw, Nr, List.length_take]; omega
      refine Tot.step0 (fun k p_ q_ => Bk_l1_q (lv k) k D B K n s e E T n' s' e' E' TT ek e1 e2 ea et bits p_ _ _ _ _ _ _ _ _ _ _ _ _ _ _ _ _) ?_
      rw [Int.toNat_natCast]
      repeat (refine Tot.t (decide_eq_true (by omega)) ?_)
      refine Tot.bind (L5 (hb _ (D1 (d := []) hi))).p1 fun r hr => ?_
      subst hr
      exact Tot.t (D2 Na (by omega)) (next _ (by rw [L6 hi, hw]))
  · have h0 := of_decide_eq_false h0
    have : TT = [] := List.length_eq_zero_iff.1 (by omega)
    subst this
    rfl
structure PC (B K : LL) (i : Nat) (b : Int) (M : Mk) (TT hs bits : LL) (h1 : Bool) (b1 : ByteArray) (h2 : Bool) (b2 : ByteArray) : Prop where
  il : i < B.length
  ik : i < K.length
  bl' : B.length ≤ 1000
  kb : gi (K.getD i []) 0 = b
  bN : gi (B.getD i []) 0 = M.n
  bS : gi (B.getD i []) 1 = M.s
  be : gi (B.getD i []) 2 = M.e
  bE : gr (B.getD i []) 3 = M.E
  bT : gr (B.getD i []) 4 = TT
  z : Zr bits b M.n
  bl : bits.length ≤ 1000000
  ed : ∀ r, r ∈ M.E → EdI 0 M.n 0 hs.length r
  kd : ∀ r, r ∈ M.E → Kd r
  e0 : 0 ≤ M.e
  en : M.e < M.n
  El : M.E.length ≤ 1000
  n1 : M.n ≤ 1000
  s1 : h1 = true → b + M.n ≤ b1.size
  s2 : h2 = true → b + M.n ≤ b2.size
def okE (h1 : Bool) (b1 : ByteArray) (h2 : Bool) (b2 : ByteArray) (b : Int) (hs : LL) (S : Int → Bool) (r : List C) : Bool := exb h1 b1 h2 b2 b r || (enb hs r && S (gi r 1))
variable {i : Nat} {b : Int} {M : Mk} {TT hs bits : LL}
theorem Ra (c : PC B K i b M TT hs bits h1 b1 h2 b2) {r : List C} (hr : r ∈ M.E) (S : Int → Bool) : Tot (fun k _ _ => (lv k).C4 D B K n s e E T ek e1 e2 ea et h1 t1 b1 h2 t2 b2 (upd bits b M.n S) b (gi r 0) (gi r 1) (gi r 2) (gi r 3) hs) (fun x => x = (okE h1 b1 h2 b2 b hs S r, D, B, K, n, s, e, E, T, ek, e1, e2, ea, et, h1, t1, b1, h2, t2, b2, upd bits b M.n S)) := by
  obtain ⟨f0, f1, g0, g1, hk⟩ := c.ed r hr
  have z0 := c.z.b0
  have z1 := c.z.bn
  have hbl := c.bl
  refine C4_up _ _ _ _ _ _ _ _ _ _ _ _ _ _ _ _ _ _ _ _ _ _ _ _ _ _ (Tot.congr ?_ (fun k _ _ => C4_q (lv k) k D B K n s e E T ek e1 e2 ea et h1 t1 b1 h2 t2 b2 (upd bits b M.n S) b (gi r 0) (gi r 1) (gi r 2) (gi r 3) hs))
  rw [Ag (x := b + gi r 1) (by omega) (by omega), E4, Ou c.z g0 g1]
  refine Tot.cond (fun k1 => ?_) (fun k1 => Tot.cond (fun k2 => ?_) (fun k2 => Tot.cond (fun k3 => ?_) (fun k3 => ?_)))
  · refine Tot.bind (Qv h1 t1 b1 (b + gi r 1) (by omega) (fun h => by have := c.s1 h; omega)) fun x hx => Tot.ret ?_
    subst hx
    have k1 : gi r 2 = 1 := eq_of_beq k1
    have : okE h1 b1 h2 b2 b hs S r = one h1 b1 (b + gi r 1) := by
      unfold okE exb enb
      rw [k1]
      simp
    rw [this]
  · refine Tot.bind (Qv h2 t2 b2 (b + gi r 1) (by omega) (fun h => by have := c.s2 h; omega)) fun x hx => Tot.ret ?_
    subst hx
    have k2 : gi r 2 = 2 := eq_of_beq k2
    have : okE h1 b1 h2 b2 b hs S r = one h2 b2 (b + gi r 1) := by
      unfold okE exb enb
      rw [k2]
      simp
    rw [this]
  · have k3 : gi r 2 = 3 := eq_of_beq k3
    have ht := hk k3
    have h0 : okE h1 b1 h2 b2 b hs S r = (bt hs (gi r 3) && S (gi r 1)) := by
      unfold okE exb enb
      rw [k3]
      simp
    refine Tot.t (decide_eq_true ht.1) (Tot.t (decide_eq_true ht.2) (Tot.cond (fun h => ?_) (fun h => Tot.ret ?_)))
    · refine Tot.t (decide_eq_true (by omega)) (Tot.t (decide_eq_true (by omega)) (Tot.ret ?_))
      have h : bt hs (gi r 3) = true := h
      rw [h0, h]
      cases S (gi r 1) <;> rfl
    · have h : bt hs (gi r 3) = false := h
      rw [h0, h]
      rfl
  · have k0 : gi r 2 = 0 := by
      have k1 := ne_of_beq_false k1
      have k2 := ne_of_beq_false k2
      have k3 := ne_of_beq_false k3
      rcases c.kd r hr with h | h | h | h
      · exact h
      · exact absurd h k1
      · exact absurd h k2
      · exact absurd h k3
    have h0 : okE h1 b1 h2 b2 b hs S r = S (gi r 1) := by
      unfold okE exb enb
      rw [k0]
      simp
    refine Tot.t (decide_eq_true (by omega)) (Tot.t (decide_eq_true (by omega)) (Tot.ret ?_))
    rw [h0]
    cases S (gi r 1) <;> rfl
structure PI (h1 : Bool) (b1 : ByteArray) (h2 : Bool) (b2 : ByteArray) (b : Int) (M : Mk) (hs : LL) (S0 S : Int → Bool) (v : Bool) (j : Nat) : Prop where
  snd : ∀ q, S q = true → F3 M.E hs (exb h1 b1 h2 b2 b) M.e q
  fin : S M.e = true
  sub : ∀ q, S0 q = true → S q = true
  t : v = true → Gp M.n.toNat S < Gp M.n.toNat S0
  f : v = false → S = S0 ∧ ∀ m, m < j → okE h1 b1 h2 b2 b hs S (M.E.getD m []) = true → S (gi (M.E.getD m []) 0) = true
theorem PI.skip {S0 S : Int → Bool} {v : Bool} {j : Nat} (h : PI h1 b1 h2 b2 b M hs S0 S v j) (hj : okE h1 b1 h2 b2 b hs S (M.E.getD j []) = true → S (gi (M.E.getD j []) 0) = true) : PI h1 b1 h2 b2 b M hs S0 S v (j + 1) :=
  ⟨h.snd, h.fin, h.sub, h.t, fun hv => ⟨(h.f hv).1, fun m hm => by
    rcases Nat.lt_or_ge m j with g | g
    · exact (h.f hv).2 m g
    · rw [show m = j by omega]; exact hj⟩⟩
theorem PI.set {S0 S : Int → Bool} {v : Bool} {j : Nat} (c : PC B K i b M TT hs bits h1 b1 h2 b2) (hjl : j < M.E.length) (h : PI h1 b1 h2 b2 b M hs S0 S v j) (hf : S (gi (M.E.getD j []) 0) = false) (hy : okE h1 b1 h2 b2 b hs S (M.E.getD j []) = true) : PI h1 b1 h2 b2 b M hs S0 (fun x => S x || decide (x = gi (M.E.getD j []) 0)) true (j + 1) := by
  have hr : M.E.getD j [] ∈ M.E := D1 hjl
  obtain ⟨f0, f1, g0, g1, hk⟩ := c.ed _ hr
  have n0 : 0 ≤ M.n := by omega
  refine ⟨fun q hq => ?_, by rw [h.fin]; rfl, fun q hq => by rw [h.sub q hq]; rfl, fun _ => ?_, fun hv => by cases hv⟩
  · rw [Bool.or_eq_true, decide_eq_true_eq] at hq
    rcases hq with hq | rfl
    · exact h.snd q hq
    · unfold okE at hy
      rw [Bool.or_eq_true, Bool.and_eq_true] at hy
      rcases hy with hy | ⟨hy1, hy2⟩
      · exact .ex hr hy
      · exact .step hr (P8.1 hy1) (h.snd _ hy2)
  · have hs0 : S0 (gi (M.E.getD j []) 0) = false := by
      cases hx : S0 (gi (M.E.getD j []) 0) with
      | false => rfl
      | true => rw [h.sub _ hx] at hf; cases hf
    exact V3 (fun q hq => by rw [h.sub q hq]; rfl) f0 hs0 (by rw [decide_eq_true rfl, Bool.or_true]) M.n.toNat (by omega)
open Classical in
noncomputable def gd (h1 : Bool) (b1 : ByteArray) (h2 : Bool) (b2 : ByteArray) (b : Int) (M : Mk) (hs : LL) (q : Int) : Bool := decide (F3 M.E hs (exb h1 b1 h2 b2 b) M.e q)
open Classical in
theorem PI.all {S0 S : Int → Bool} (h : PI h1 b1 h2 b2 b M hs S0 S false M.E.length) : S = gd h1 b1 h2 b2 b M hs := by
  have cl : ∀ r, r ∈ M.E → okE h1 b1 h2 b2 b hs S r = true → S (gi r 0) = true := fun r hr => by
    obtain ⟨m, hm, rfl⟩ := Ge hr
    exact (h.f rfl).2 m hm
  have up : ∀ q, F3 M.E hs (exb h1 b1 h2 b2 b) M.e q → S q = true := fun q hq => by
    induction hq with
    | fin => exact h.fin
    | ex a c => exact cl _ a (by unfold okE; rw [c]; rfl)
    | step a c _ ih => exact cl _ a (by unfold okE; rw [P8.2 c, ih, Bool.and_true, Bool.or_true])
  funext q
  unfold gd
  cases hq : S q with
  | true => exact (decide_eq_true (h.snd q hq)).symm
  | false => exact (decide_eq_false fun g => by rw [up q g] at hq; cases hq).symm
theorem Sa (c : PC B K i b M TT hs bits h1 b1 h2 b2) (S0 : Int → Bool) {Q : _ → Prop} (hend : ∀ S v, PI h1 b1 h2 b2 b M hs S0 S v M.E.length → Tot (fun k a q => Ap_l3 (lv k) k D B K n s e E T ek e1 e2 ea et h1 t1 b1 h2 t2 b2 bits (i : Int) a v D B K n s e E T ek e1 e2 ea et h1 t1 b1 h2 t2 b2 hs (upd bits b M.n S)) Q) : ∀ (d j : Nat) (w : (Int → Bool) × Bool), M.E.length - j = d → j ≤ M.E.length → PI h1 b1 h2 b2 b M hs S0 w.1 w.2 j → Tot (fun k a q => Ap_l2 (lv k) k D B K n s e E T ek e1 e2 ea et h1 t1 b1 h2 t2 b2 bits (i : Int) a q w.2 (j : Int) D B K n s e E T ek e1 e2 ea et h1 t1 b1 h2 t2 b2 hs (upd bits b M.n w.1)) Q := by
  have hEl := c.El
  have z0 := c.z.b0
  have z1 := c.z.bn
  have hbl := c.bl
  refine Tot.loop (H := fun k a q v (w : (Int → Bool) × Bool) => Ap_l2 (lv k) k D B K n s e E T ek e1 e2 ea et h1 t1 b1 h2 t2 b2 bits (i : Int) a q w.2 v D B K n s e E T ek e1 e2 ea et h1 t1 b1 h2 t2 b2 hs (upd bits b M.n w.1)) (fun j w => PI h1 b1 h2 b2 b M hs S0 w.1 w.2 j) (by omega) (fun w hw => ?_) (fun j w hj hw next => ?_)
  · refine Tot.step1 (fun k p_ q_ => Ap_l2_q (lv k) k D B K n s e E T ek e1 e2 ea et h1 t1 b1 h2 t2 b2 bits (i : Int) p_ q_ _ _ _ _ _ _ _ _ _ _ _ _ _ _ _ _ _ _ _ _ _ _ _) ?_
    rw [Int.toNat_natCast, c.bE]
    exact Tot.f (decide_eq_false (by omega)) (hend _ _ hw)
  · have hr : M.E.getD j [] ∈ M.E := D1 hj
    obtain ⟨f0, f1, g0, g1, hk⟩ := c.ed _ hr
    refine Tot.step1 (fun k p_ q_ => Ap_l2_q (lv k) k D B K n s e E T ek e1 e2 ea et h1 t1 b1 h2 t2 b2 bits (i : Int) p_ q_ _ _ _ _ _ _ _ _ _ _ _ _ _ _ _ _ _ _ _ _ _ _ _) ?_
    simp only [Int.toNat_natCast, c.bE, c.kb, E4]
    rw [Ag (x := b + gi (M.E.getD j []) 0) (by omega) (by omega), Ou c.z f0 f1]
    repeat (refine Tot.t (decide_eq_true (by omega)) ?_)
    refine Tot.cond (fun h => ?_) (fun h => next w (hw.skip fun _ => ?_))
    · have hf : w.1 (gi (M.E.getD j []) 0) = false := by
        cases hx : w.1 (gi (M.E.getD j []) 0) with
        | false => rfl
        | true => rw [hx] at h; cases h
      refine Tot.bind (Ra c hr w.1) fun x hx => ?_
      subst hx
      dsimp only
      refine Tot.cond (fun hL => ?_) (fun hL => next w (hw.skip fun hy => ?_))
      · rw [E4, Ld c.z f0 f1]
        repeat (refine Tot.t (decide_eq_true (by omega)) ?_)
        exact next (_, true) (hw.set c hj hf hL)
      · rw [hy] at hL; cases hL
    · cases hx : w.1 (gi (M.E.getD j []) 0) with
      | true => rfl
      | false => rw [hx] at h; cases h
theorem rounds (c : PC B K i b M TT hs bits h1 b1 h2 b2) : ∀ (N : Nat) (S : Int → Bool) (v : Bool), (v = true → Gp M.n.toNat S < N ∧ S M.e = true ∧ ∀ q, S q = true → F3 M.E hs (exb h1 b1 h2 b2 b) M.e q) → (v = false → S = gd h1 b1 h2 b2 b M hs) → Tot (fun k a q => Ap_l3 (lv k) k D B K n s e E T ek e1 e2 ea et h1 t1 b1 h2 t2 b2 bits (i : Int) a v D B K n s e E T ek e1 e2 ea et h1 t1 b1 h2 t2 b2 hs (upd bits b M.n S)) (fun r => r = (D, B, K, n, s, e, E, T, ek, e1, e2, ea, et, h1, t1, b1, h2, t2, b2, upd bits b M.n (gd h1 b1 h2 b2 b M hs))) := by
  intro N
  induction N with
  | zero =>
    intro S v hv hf
    refine Tot.step0 (fun k p_ q_ => Ap_l3_q (lv k) k D B K n s e E T ek e1 e2 ea et h1 t1 b1 h2 t2 b2 bits (i : Int) p_ v _ _ _ _ _ _ _ _ _ _ _ _ _ _ _ _ _ _ _ _ _) ?_
    cases v with
    | true => exact absurd (hv rfl).1 (Nat.not_lt_zero _)
    | false => exact Tot.ret (by rw [hf rfl])
  | succ N ih =>
    intro S v hv hf
    refine Tot.step0 (fun k p_ q_ => Ap_l3_q (lv k) k D B K n s e E T ek e1 e2 ea et h1 t1 b1 h2 t2 b2 bits (i : Int) p_ v _ _ _ _ _ _ _ _ _ _ _ _ _ _ _ _ _ _ _ _ _) ?_
    cases v with
    | false => exact Tot.ret (by rw [hf rfl])
    | true =>
      obtain ⟨hc, hfin, hsnd⟩ := hv rfl
      refine Tot.t rfl (Tot.in1 (Sa c S (fun S' v' h => ih S' v' (fun e => ⟨by have := h.t e; omega, h.fin, h.snd⟩) (fun e => by subst e; exact h.all)) _ 0 (S, false) rfl (Nat.zero_le _) ⟨hsnd, hfin, fun q h => h, fun e => (by cases e), fun _ => ⟨rfl, fun m hm => by omega⟩⟩))
theorem Eq (c : PC B K i b M TT hs bits h1 b1 h2 b2) : bits.set (b + M.e).toNat ((bits.getD (b + M.e).toNat []).set 0 (C.int .u8 1)) = upd bits b M.n (fun x => decide (x = M.e)) := by
  have h := Ld (S := fun _ => false) c.z c.e0 c.en
  rw [Ov] at h
  rw [h]
  refine I3 fun q _ _ => ?_
  rw [Bool.false_or]
theorem Aaa (c : PC B K i b M TT hs bits h1 b1 h2 b2) (ht : Tot (fun k _ _ => (lv k).Bk D B K n s e E T M.n M.s M.e M.E TT ek e1 e2 ea et bits) (fun r => r = hs)) : Tot (fun k _ _ => (lv k).Ap D B K n s e E T ek e1 e2 ea et h1 t1 b1 h2 t2 b2 bits (i : Int)) (fun r => r = (D, B, K, n, s, e, E, T, ek, e1, e2, ea, et, h1, t1, b1, h2, t2, b2, upd bits b M.n (gd h1 b1 h2 b2 b M hs))) := by
  have hEl := c.El
  have z0 := c.z.b0
  have z1 := c.z.bn
  have hbl := c.bl
  have he0 := c.e0
  have hen := c.en
  have hil := c.il
  have hik := c.ik
  have start : PI h1 b1 h2 b2 b M hs (fun x => decide (x = M.e)) (fun x => decide (x = M.e)) false 0 := ⟨fun q hq => by rw [of_decide_eq_true hq]; exact .fin, decide_eq_true rfl, fun q h => h, fun e => (by cases e), fun _ => ⟨rfl, fun m hm => by omega⟩⟩
  refine Ap_up _ _ _ _ _ _ _ _ _ _ _ _ _ _ _ _ _ _ _ _ _ (Tot.congr ?_ (fun k _ _ => Ap_q (lv k) k D B K n s e E T ek e1 e2 ea et h1 t1 b1 h2 t2 b2 bits (i : Int)))
  simp only [Int.toNat_natCast, c.bE, c.kb, c.be, c.bN, c.bS, c.bT]
  rw [Ag (x := b + M.e) (by omega) (by omega)]
  repeat (refine Tot.t (decide_eq_true (by omega)) ?_)
  refine Tot.bind ht fun r hr => ?_
  rw [hr]
  clear hr r
  repeat (refine Tot.t (decide_eq_true (by omega)) ?_)
  refine Tot.in0 (g := fun k p_ q_ => Ap_l0 (lv k) k D B K n s e E T ek e1 e2 ea et h1 t1 b1 h2 t2 b2 bits (i : Int) p_ true hs) ?_
  refine Tot.step0 (fun k p_ q_ => Ap_l0_q (lv k) k D B K n s e E T ek e1 e2 ea et h1 t1 b1 h2 t2 b2 bits (i : Int) p_ _ _) ?_
  refine Tot.t rfl (Tot.in1 (Tot.loop (H := fun k a q v (_ : Unit) => Ap_l1 (lv k) k D B K n s e E T ek e1 e2 ea et h1 t1 b1 h2 t2 b2 bits (i : Int) a q v hs) (n := M.E.length) (fun j _ => PI h1 b1 h2 b2 b M hs (fun x => decide (x = M.e)) (fun x => decide (x = M.e)) false j) (by omega) (fun _ hw => ?_) (fun j _ hj hw next => ?_) _ 0 () rfl (Nat.zero_le _) start))
  · refine Tot.step1 (fun k p_ q_ => Ap_l1_q (lv k) k D B K n s e E T ek e1 e2 ea et h1 t1 b1 h2 t2 b2 bits (i : Int) p_ q_ _ _) ?_
    rw [Int.toNat_natCast, c.bE]
    refine Tot.f (decide_eq_false (by omega)) ?_
    refine Tot.step0 (fun k p_ q_ => Ap_l0_q (lv k) k D B K n s e E T ek e1 e2 ea et h1 t1 b1 h2 t2 b2 bits (i : Int) p_ _ _) ?_
    simp only [Int.toNat_natCast, c.bE, c.kb, c.be]
    rw [Ag (x := b + M.e) (by omega) (by omega), Eq c, hw.all]
    exact Tot.ret rfl
  · have hr : M.E.getD j [] ∈ M.E := D1 hj
    obtain ⟨f0, f1, g0, g1, hk⟩ := c.ed _ hr
    refine Tot.step1 (fun k p_ q_ => Ap_l1_q (lv k) k D B K n s e E T ek e1 e2 ea et h1 t1 b1 h2 t2 b2 bits (i : Int) p_ q_ _ _) ?_
    simp only [Int.toNat_natCast, c.bE, c.kb, c.be]
    rw [Ag (x := b + M.e) (by omega) (by omega), Ag (x := b + gi (M.E.getD j []) 0) (by omega) (by omega), Eq c, E4, Ou c.z f0 f1]
    repeat (refine Tot.t (decide_eq_true (by omega)) ?_)
    refine Tot.cond (fun h => ?_) (fun h => next () (hw.skip fun _ => ?_))
    · have hf : decide (gi (M.E.getD j []) 0 = M.e) = false := by
        cases hx : decide (gi (M.E.getD j []) 0 = M.e) with
        | false => rfl
        | true => rw [hx] at h; cases h
      refine Tot.bind (Ra c hr _) fun x hx => ?_
      subst hx
      dsimp only
      have p2 := Sa c (fun x => decide (x = M.e)) (Q := fun r => r = (D, B, K, n, s, e, E, T, ek, e1, e2, ea, et, h1, t1, b1, h2, t2, b2, upd bits b M.n (gd h1 b1 h2 b2 b M hs))) (fun S' v' h => rounds c _ S' v' (fun e => ⟨Nat.lt_succ_self _, h.fin, h.snd⟩) (fun e => by subst e; exact h.all))
      have hw' : ((j : Int) + 1) = ((j + 1 : Nat) : Int) := by omega
      rw [Ag (x := (j : Int) + 1) (by omega) (by omega), hw']
      refine Tot.cond (fun hL => ?_) (fun hL => ?_)
      · rw [E4, Ld c.z f0 f1]
        repeat (refine Tot.t (decide_eq_true (by omega)) ?_)
        exact p2 _ (j + 1) (_, true) rfl (by omega) (hw.set c hj hf hL)
      · exact p2 _ (j + 1) (_, false) rfl (by omega) (hw.skip fun hy => by rw [hy] at hL; cases hL)
    · cases hx : decide (gi (M.E.getD j []) 0 = M.e) with
      | true => rfl
      | false => rw [hx] at h; cases h
end
theorem Md (h t : Bool) (b : ByteArray) (x : Int) (h0 : 0 ≤ x) (h1 : h = true → x < b.size) : Tot (fun k _ _ => (lv k).Cf h t b x) (fun r => r = one h b x) := by
  refine Cf_up _ _ _ _ (Tot.congr ?_ (fun k _ _ => Cf_q (lv k) k h t b x))
  refine Tot.cond (fun hh => Tot.t (decide_eq_true h0) (Tot.t (decide_eq_true (h1 hh)) (Tot.ret (by unfold one; rw [hh]; rfl)))) (fun hh => Tot.ret (by unfold one; rw [hh]; rfl))
section
variable {D B K E T ea : LL} {n s e ek : Int} {e1 e2 et : ByteArray} {h1 t1 h2 t2 : Bool} {b1 b2 : ByteArray}
variable {i : Nat} {b : Int} {M : Mk} {TT hs bits : LL}
theorem Rq (c : PC B K i b M TT hs bits h1 b1 h2 b2) {q : Int} (h0 : 0 ≤ q) (h1' : q < M.n) : MOk M.E hs [[C.int .i64 q]] M.n := by
  have := c.n1
  refine ⟨by omega, c.n1, c.El, fun r hr => ?_, fun f hf => by rw [List.mem_singleton.1 hf]; exact ⟨h0, h1'⟩, by simp⟩
  obtain ⟨f0, f1, g0, g1, hk⟩ := c.ed r hr
  exact ⟨f0, f1, g0, g1, hk⟩
def DI (h1 : Bool) (b1 : ByteArray) (h2 : Bool) (b2 : ByteArray) (b : Int) (M : Mk) (cl : LL) (j : Nat) (ok : Bool) : Prop := ok = true ↔ (bt cl M.e = true ∨ ∃ m, m < j ∧ bt cl (gi (M.E.getD m []) 0) = true ∧ exb h1 b1 h2 b2 b (M.E.getD m []) = true)
theorem DI.yes {cl : LL} {j : Nat} {ok : Bool} (h : DI h1 b1 h2 b2 b M cl j ok) (h3 : bt cl (gi (M.E.getD j []) 0) = true) (h4 : exb h1 b1 h2 b2 b (M.E.getD j []) = true) : DI h1 b1 h2 b2 b M cl (j + 1) true := ⟨fun _ => .inr ⟨j, by omega, h3, h4⟩, fun _ => rfl⟩
theorem DI.no {cl : LL} {j : Nat} {ok : Bool} (h : DI h1 b1 h2 b2 b M cl j ok) (h3 : ¬ (bt cl (gi (M.E.getD j []) 0) = true ∧ exb h1 b1 h2 b2 b (M.E.getD j []) = true)) : DI h1 b1 h2 b2 b M cl (j + 1) ok := by
  unfold DI at h ⊢
  rw [h]
  constructor
  · rintro (h | ⟨m, a, b, c⟩)
    · exact .inl h
    · exact .inr ⟨m, by omega, b, c⟩
  · rintro (h | ⟨m, a, b, c⟩)
    · exact .inl h
    · rcases Nat.lt_or_ge m j with g | g
      · exact .inr ⟨m, g, b, c⟩
      · rw [show m = j by omega] at b c
        exact absurd ⟨b, c⟩ h3
open Classical in
theorem DI.all (c : PC B K i b M TT hs bits h1 b1 h2 b2) {cl : LL} {q : Int} (hq : F0 M.E hs [[C.int .i64 q]] M.n cl) {ok : Bool} (h : DI h1 b1 h2 b2 b M cl M.E.length ok) : ok = gd h1 b1 h2 b2 b M hs q := by
  have : ok = true ↔ F3 M.E hs (exb h1 b1 h2 b2 b) M.e q := by
    rw [Xa, show (ok = true ↔ _) from h]
    constructor
    · rintro (h | ⟨m, a, b, d⟩)
      · exact .inl ((hq.2 _ c.e0).1 h)
      · have hr := D1 (d := []) a
        exact .inr ⟨_, hr, (hq.2 _ (c.ed _ hr).1).1 b, d⟩
    · rintro (h | ⟨r, a, b, d⟩)
      · exact .inl ((hq.2 _ c.e0).2 h)
      · obtain ⟨m, hm, rfl⟩ := Ge a
        exact .inr ⟨m, hm, (hq.2 _ (c.ed _ a).1).2 b, d⟩
  unfold gd
  cases hk : ok with
  | true => exact (decide_eq_true (this.1 hk)).symm
  | false => exact (decide_eq_false fun g => by rw [this.2 g] at hk; cases hk).symm
theorem Qj {r : List C} (h : gi r 2 = 1) : exb h1 b1 h2 b2 b r = one h1 b1 (b + gi r 1) := by
  unfold exb
  rw [h]
  simp
theorem Qk {r : List C} (h : gi r 2 = 2) : exb h1 b1 h2 b2 b r = one h2 b2 (b + gi r 1) := by
  unfold exb
  rw [h]
  simp
theorem Qi {r : List C} (h : ¬ gi r 2 = 1) (h' : ¬ gi r 2 = 2) : exb h1 b1 h2 b2 b r = false := by
  unfold exb
  rw [beq_false_of_ne h, beq_false_of_ne h']
  rfl
theorem Aas (c : PC B K i b M TT hs bits h1 b1 h2 b2) {Q : Bool × Bool × ByteArray → Prop} (hend : Tot (fun k a q => Ad_l0 (lv k) k D B K n s e E T ek e1 e2 ea et h1 t1 b1 h2 t2 b2 a (IntKind.i64.wrap ((i : Int) + 1)) (upd bits b M.n (gd h1 b1 h2 b2 b M hs))) Q) : Tot (fun k a q => Ad_l5 (lv k) k D B K n s e E T ek e1 e2 ea et h1 t1 b1 h2 t2 b2 a q (i : Int) 0 bits M.n M.s M.e M.E TT hs) Q := by
  have hEl := c.El
  have z0 := c.z.b0
  have z1 := c.z.bn
  have hbl := c.bl
  have he0 := c.e0
  have hen := c.en
  have hil := c.il
  have hik := c.ik
  have hn1 := c.n1
  have hbl' := c.bl'
  obtain ⟨N, hN⟩ : ∃ N : Nat, M.n = N := ⟨M.n.toNat, by omega⟩
  refine Tot.loop (H := fun k a q v (w : LL) => Ad_l5 (lv k) k D B K n s e E T ek e1 e2 ea et h1 t1 b1 h2 t2 b2 a q (i : Int) v w M.n M.s M.e M.E TT hs) (n := N) (fun q w => w = upd bits b M.n (fun x => decide (x < (q : Int)) && gd h1 b1 h2 b2 b M hs x)) (by omega) (fun w hw => ?_) (fun q w hq hw next => ?_) _ 0 bits rfl (Nat.zero_le _) ?_
  · refine Tot.step1 (fun k p_ q_ => Ad_l5_q (lv k) k D B K n s e E T ek e1 e2 ea et h1 t1 b1 h2 t2 b2 p_ q_ _ _ _ _ _ _ _ _ _) ?_
    refine Tot.f (decide_eq_false (by omega)) ?_
    rw [hw]
    have : upd bits b M.n (fun x => decide (x < (N : Int)) && gd h1 b1 h2 b2 b M hs x) = upd bits b M.n (gd h1 b1 h2 b2 b M hs) := I3 fun x _ hx => by rw [decide_eq_true (by omega), Bool.true_and]
    rw [this]
    exact hend
  · subst hw
    have hq' : (q : Int) < M.n := by omega
    have hmok := Rq c (q := (q : Int)) (by omega) hq'
    refine Tot.step1 (fun k p_ q_ => Ad_l5_q (lv k) k D B K n s e E T ek e1 e2 ea et h1 t1 b1 h2 t2 b2 p_ q_ _ _ _ _ _ _ _ _ _) ?_
    refine Tot.t (decide_eq_true hq') (Tot.bind ((So (s := M.s) (e := M.e) hmok).2 TT) fun cl hcl => ?_)
    have hcll : (cl.length : Int) = M.n := hcl.1.1
    repeat (refine Tot.t (decide_eq_true (by omega)) ?_)
    refine Tot.in2 (g := fun k p_ q_ r_ => Ad_l7 (lv k) k D B K n s e E T ek e1 e2 ea et h1 t1 b1 h2 t2 b2 p_ q_ r_ (i : Int) (q : Int) (gb (cl.getD M.e.toNat []) 0) 0 (upd bits b M.n (fun x => decide (x < (q : Int)) && gd h1 b1 h2 b2 b M hs x)) M.n M.s M.e M.E TT hs cl) ?_
    refine A3.loop (H := fun k p_ q_ r_ v ok => Ad_l7 (lv k) k D B K n s e E T ek e1 e2 ea et h1 t1 b1 h2 t2 b2 p_ q_ r_ (i : Int) (q : Int) ok v (upd bits b M.n (fun x => decide (x < (q : Int)) && gd h1 b1 h2 b2 b M hs x)) M.n M.s M.e M.E TT hs cl) (n := M.E.length) (fun j ok => DI h1 b1 h2 b2 b M cl j ok) (by omega) (fun ok hok => ?_) (fun j ok hj hok nx => ?_) _ 0 _ rfl (Nat.zero_le _) ⟨fun h => .inl h, fun h => by
      rcases h with h | ⟨m, hm, _⟩
      · exact h
      · omega⟩
    · refine A3.step (fun k p_ q_ r_ => Ad_l7_q (lv k) k D B K n s e E T ek e1 e2 ea et h1 t1 b1 h2 t2 b2 p_ q_ r_ _ _ _ _ _ _ _ _ _ _ _ _) ?_
      simp only [Int.toNat_natCast, c.kb, E4]
      rw [Ag (x := b + (q : Int)) (by omega) (by omega), Ld c.z (by omega) hq']
      refine A3.f (decide_eq_false (by omega)) ?_
      have hg := hok.all c hcl
      have step : ∀ {S : Int → Bool}, (∀ x, S x = (decide (x < ((q + 1 : Nat) : Int)) && gd h1 b1 h2 b2 b M hs x)) → A3 (fun k p_ q_ r_ => Ad_l5 (lv k) k D B K n s e E T ek e1 e2 ea et h1 t1 b1 h2 t2 b2 p_ q_ (i : Int) (IntKind.i64.wrap ((q : Int) + 1)) (upd bits b M.n S) M.n M.s M.e M.E TT hs) Q := fun h => A3.out (next _ (I3 fun x _ _ => h x))
      refine A3.cond (fun h => ?_) (fun h => step fun x => ?_)
      · refine A3.t (decide_eq_true (by omega)) (A3.t (decide_eq_true (by omega)) (A3.t (decide_eq_true (by omega)) (A3.t (decide_eq_true (by omega)) (step fun x => ?_))))
        rw [h] at hg
        by_cases e : x = (q : Int)
        · rw [e, ← hg, decide_eq_true (show (q : Int) < ((q + 1 : Nat) : Int) by omega), decide_eq_true rfl, Bool.or_true]
          rfl
        · rw [decide_eq_false e, Bool.or_false]
          by_cases e2 : x < (q : Int)
          · rw [decide_eq_true e2, decide_eq_true (show x < ((q + 1 : Nat) : Int) by omega)]
          · rw [decide_eq_false e2, decide_eq_false (show ¬ x < ((q + 1 : Nat) : Int) by omega)]
      · rw [h] at hg
        by_cases e : x = (q : Int)
        · rw [e, ← hg, Bool.and_false, Bool.and_false]
        · by_cases e2 : x < (q : Int)
          · rw [decide_eq_true e2, decide_eq_true (show x < ((q + 1 : Nat) : Int) by omega)]
          · rw [decide_eq_false e2, decide_eq_false (show ¬ x < ((q + 1 : Nat) : Int) by omega)]
    · have hr : M.E.getD j [] ∈ M.E := D1 hj
      obtain ⟨f0, f1, g0, g1, hk⟩ := c.ed _ hr
      refine A3.step (fun k p_ q_ r_ => Ad_l7_q (lv k) k D B K n s e E T ek e1 e2 ea et h1 t1 b1 h2 t2 b2 p_ q_ r_ _ _ _ _ _ _ _ _ _ _ _ _) ?_
      simp only [Int.toNat_natCast, c.kb, E4]
      rw [Ag (x := b + gi (M.E.getD j []) 1) (by omega) (by omega)]
      have s1 := fun (h : h1 = true) => c.s1 h
      have s2 := fun (h : h2 = true) => c.s2 h
      refine A3.t (decide_eq_true (by omega)) (A3.t (decide_eq_true (by omega)) (A3.t (decide_eq_true (by omega)) (A3.t (decide_eq_true (by omega)) (A3.t (decide_eq_true (by omega)) ?_))))
      refine A3.cond (fun hb => ?_) (fun hb => nx _ (hok.no fun h => by rw [show gb (cl.getD (gi (M.E.getD j []) 0).toNat []) 0 = true from h.1] at hb; cases hb))
      refine A3.cond (fun k1 => ?_) (fun k1 => ?_)
      · have k1 : gi (M.E.getD j []) 2 = 1 := eq_of_beq k1
        have ex := Qj (h1 := h1) (b1 := b1) (h2 := h2) (b2 := b2) (b := b) k1
        refine A3.t (decide_eq_true (by omega)) (A3.t (decide_eq_true (by omega)) (A3.bind (Md h1 t1 b1 (b + gi (M.E.getD j []) 1) (by omega) (fun h => by have := s1 h; omega)) fun x hx => ?_))
        subst hx
        refine A3.cond (fun h => nx _ (hok.yes hb (ex.trans h))) (fun h => A3.f (by rw [k1]; rfl) (nx _ (hok.no fun g => ?_)))
        rw [ex, h] at g
        cases g.2
      · have k1 := ne_of_beq_false k1
        refine A3.cond (fun k2 => ?_) (fun k2 => nx _ (hok.no fun g => ?_))
        · have k2 : gi (M.E.getD j []) 2 = 2 := eq_of_beq k2
          have ex := Qk (h1 := h1) (b1 := b1) (h2 := h2) (b2 := b2) (b := b) k2
          refine A3.t (decide_eq_true (by omega)) (A3.t (decide_eq_true (by omega)) (A3.bind (Md h2 t2 b2 (b + gi (M.E.getD j []) 1) (by omega) (fun h => by have := s2 h; omega)) fun x hx => ?_))
          subst hx
          refine A3.cond (fun h => nx _ (hok.yes hb (ex.trans h))) (fun h => nx _ (hok.no fun g => ?_))
          rw [ex, h] at g
          cases g.2
        · rw [Qi k1 (ne_of_beq_false k2)] at g
          cases g.2
  · rw [show (fun x : Int => decide (x < ((0 : Nat) : Int)) && gd h1 b1 h2 b2 b M hs x) = fun x => decide (x < 0) && gd h1 b1 h2 b2 b M hs x from rfl]
    have := I3 (bits := bits) (b := b) (n := M.n) (S := fun x => decide (x < 0) && gd h1 b1 h2 b2 b M hs x) (S' := fun _ => false) fun x hx _ => by rw [decide_eq_false (by omega), Bool.false_and]
    rw [this, Ov]
theorem Aat (c : PC B K i b M TT [] bits h1 b1 h2 b2) {Q : Bool × Bool × ByteArray → Prop} (hend : Tot (fun k a q => Ad_l0 (lv k) k D B K n s e E T ek e1 e2 ea et h1 t1 b1 h2 t2 b2 a (IntKind.i64.wrap ((i : Int) + 1)) (upd bits b M.n (gd h1 b1 h2 b2 b M []))) Q) : Tot (fun k a q => Ad_l2 (lv k) k D B K n s e E T ek e1 e2 ea et h1 t1 b1 h2 t2 b2 a q (i : Int) 0 bits M.n M.s M.e M.E TT ) Q := by
  have hEl := c.El
  have z0 := c.z.b0
  have z1 := c.z.bn
  have hbl := c.bl
  have he0 := c.e0
  have hen := c.en
  have hil := c.il
  have hik := c.ik
  have hn1 := c.n1
  have hbl' := c.bl'
  obtain ⟨N, hN⟩ : ∃ N : Nat, M.n = N := ⟨M.n.toNat, by omega⟩
  refine Tot.loop (H := fun k a q v (w : LL) => Ad_l2 (lv k) k D B K n s e E T ek e1 e2 ea et h1 t1 b1 h2 t2 b2 a q (i : Int) v w M.n M.s M.e M.E TT ) (n := N) (fun q w => w = upd bits b M.n (fun x => decide (x < (q : Int)) && gd h1 b1 h2 b2 b M [] x)) (by omega) (fun w hw => ?_) (fun q w hq hw next => ?_) _ 0 bits rfl (Nat.zero_le _) ?_
  · refine Tot.step1 (fun k p_ q_ => Ad_l2_q (lv k) k D B K n s e E T ek e1 e2 ea et h1 t1 b1 h2 t2 b2 p_ q_ _ _ _ _ _ _ _ _) ?_
    refine Tot.f (decide_eq_false (by omega)) ?_
    rw [hw]
    have : upd bits b M.n (fun x => decide (x < (N : Int)) && gd h1 b1 h2 b2 b M [] x) = upd bits b M.n (gd h1 b1 h2 b2 b M []) := I3 fun x _ hx => by rw [decide_eq_true (by omega), Bool.true_and]
    rw [this]
    exact hend
  · subst hw
    have hq' : (q : Int) < M.n := by omega
    have hmok := Rq c (q := (q : Int)) (by omega) hq'
    refine Tot.step1 (fun k p_ q_ => Ad_l2_q (lv k) k D B K n s e E T ek e1 e2 ea et h1 t1 b1 h2 t2 b2 p_ q_ _ _ _ _ _ _ _ _) ?_
    refine Tot.t (decide_eq_true hq') (Tot.bind ((So (s := M.s) (e := M.e) hmok).2 TT) fun cl hcl => ?_)
    have hcll : (cl.length : Int) = M.n := hcl.1.1
    repeat (refine Tot.t (decide_eq_true (by omega)) ?_)
    refine Tot.in2 (g := fun k p_ q_ r_ => Ad_l4 (lv k) k D B K n s e E T ek e1 e2 ea et h1 t1 b1 h2 t2 b2 p_ q_ r_ (i : Int) (q : Int) (gb (cl.getD M.e.toNat []) 0) 0 (upd bits b M.n (fun x => decide (x < (q : Int)) && gd h1 b1 h2 b2 b M [] x)) M.n M.s M.e M.E TT  cl) ?_
    refine A3.loop (H := fun k p_ q_ r_ v ok => Ad_l4 (lv k) k D B K n s e E T ek e1 e2 ea et h1 t1 b1 h2 t2 b2 p_ q_ r_ (i : Int) (q : Int) ok v (upd bits b M.n (fun x => decide (x < (q : Int)) && gd h1 b1 h2 b2 b M [] x)) M.n M.s M.e M.E TT  cl) (n := M.E.length) (fun j ok => DI h1 b1 h2 b2 b M cl j ok) (by omega) (fun ok hok => ?_) (fun j ok hj hok nx => ?_) _ 0 _ rfl (Nat.zero_le _) ⟨fun h => .inl h, fun h => by
      rcases h with h | ⟨m, hm, _⟩
      · exact h
      · omega⟩
    · refine A3.step (fun k p_ q_ r_ => Ad_l4_q (lv k) k D B K n s e E T ek e1 e2 ea et h1 t1 b1 h2 t2 b2 p_ q_ r_ _ _ _ _ _ _ _ _ _ _  _) ?_
      simp only [Int.toNat_natCast, c.kb, E4]
      rw [Ag (x := b + (q : Int)) (by omega) (by omega), Ld c.z (by omega) hq']
      refine A3.f (decide_eq_false (by omega)) ?_
      have hg := hok.all c hcl
      have step : ∀ {S : Int → Bool}, (∀ x, S x = (decide (x < ((q + 1 : Nat) : Int)) && gd h1 b1 h2 b2 b M [] x)) → A3 (fun k p_ q_ r_ => Ad_l2 (lv k) k D B K n s e E T ek e1 e2 ea et h1 t1 b1 h2 t2 b2 p_ q_ (i : Int) (IntKind.i64.wrap ((q : Int) + 1)) (upd bits b M.n S) M.n M.s M.e M.E TT ) Q := fun h => A3.out (next _ (I3 fun x _ _ => h x))
      refine A3.cond (fun h => ?_) (fun h => step fun x => ?_)
      · refine A3.t (decide_eq_true (by omega)) (A3.t (decide_eq_true (by omega)) (A3.t (decide_eq_true (by omega)) (A3.t (decide_eq_true (by omega)) (step fun x => ?_))))
        rw [h] at hg
        by_cases e : x = (q : Int)
        · rw [e, ← hg, decide_eq_true (show (q : Int) < ((q + 1 : Nat) : Int) by omega), decide_eq_true rfl, Bool.or_true]
          rfl
        · rw [decide_eq_false e, Bool.or_false]
          by_cases e2 : x < (q : Int)
          · rw [decide_eq_true e2, decide_eq_true (show x < ((q + 1 : Nat) : Int) by omega)]
          · rw [decide_eq_false e2, decide_eq_false (show ¬ x < ((q + 1 : Nat) : Int) by omega)]
      · rw [h] at hg
        by_cases e : x = (q : Int)
        · rw [e, ← hg, Bool.and_false, Bool.and_false]
        · by_cases e2 : x < (q : Int)
          · rw [decide_eq_true e2, decide_eq_true (show x < ((q + 1 : Nat) : Int) by omega)]
          · rw [decide_eq_false e2, decide_eq_false (show ¬ x < ((q + 1 : Nat) : Int) by omega)]
    · have hr : M.E.getD j [] ∈ M.E := D1 hj
      obtain ⟨f0, f1, g0, g1, hk⟩ := c.ed _ hr
      refine A3.step (fun k p_ q_ r_ => Ad_l4_q (lv k) k D B K n s e E T ek e1 e2 ea et h1 t1 b1 h2 t2 b2 p_ q_ r_ _ _ _ _ _ _ _ _ _ _  _) ?_
      simp only [Int.toNat_natCast, c.kb, E4]
      rw [Ag (x := b + gi (M.E.getD j []) 1) (by omega) (by omega)]
      have s1 := fun (h : h1 = true) => c.s1 h
      have s2 := fun (h : h2 = true) => c.s2 h
      refine A3.t (decide_eq_true (by omega)) (A3.t (decide_eq_true (by omega)) (A3.t (decide_eq_true (by omega)) (A3.t (decide_eq_true (by omega)) (A3.t (decide_eq_true (by omega)) ?_))))
      refine A3.cond (fun hb => ?_) (fun hb => nx _ (hok.no fun h => by rw [show gb (cl.getD (gi (M.E.getD j []) 0).toNat []) 0 = true from h.1] at hb; cases hb))
      refine A3.cond (fun k1 => ?_) (fun k1 => ?_)
      · have k1 : gi (M.E.getD j []) 2 = 1 := eq_of_beq k1
        have ex := Qj (h1 := h1) (b1 := b1) (h2 := h2) (b2 := b2) (b := b) k1
        refine A3.t (decide_eq_true (by omega)) (A3.t (decide_eq_true (by omega)) (A3.bind (Md h1 t1 b1 (b + gi (M.E.getD j []) 1) (by omega) (fun h => by have := s1 h; omega)) fun x hx => ?_))
        subst hx
        refine A3.cond (fun h => nx _ (hok.yes hb (ex.trans h))) (fun h => A3.f (by rw [k1]; rfl) (nx _ (hok.no fun g => ?_)))
        rw [ex, h] at g
        cases g.2
      · have k1 := ne_of_beq_false k1
        refine A3.cond (fun k2 => ?_) (fun k2 => nx _ (hok.no fun g => ?_))
        · have k2 : gi (M.E.getD j []) 2 = 2 := eq_of_beq k2
          have ex := Qk (h1 := h1) (b1 := b1) (h2 := h2) (b2 := b2) (b := b) k2
          refine A3.t (decide_eq_true (by omega)) (A3.t (decide_eq_true (by omega)) (A3.bind (Md h2 t2 b2 (b + gi (M.E.getD j []) 1) (by omega) (fun h => by have := s2 h; omega)) fun x hx => ?_))
          subst hx
          refine A3.cond (fun h => nx _ (hok.yes hb (ex.trans h))) (fun h => nx _ (hok.no fun g => ?_))
          rw [ex, h] at g
          cases g.2
        · rw [Qi k1 (ne_of_beq_false k2)] at g
          cases g.2
  · rw [show (fun x : Int => decide (x < ((0 : Nat) : Int)) && gd h1 b1 h2 b2 b M [] x) = fun x => decide (x < 0) && gd h1 b1 h2 b2 b M [] x from rfl]
    have := I3 (bits := bits) (b := b) (n := M.n) (S := fun x => decide (x < 0) && gd h1 b1 h2 b2 b M [] x) (S' := fun _ => false) fun x hx _ => by rw [decide_eq_false (by omega), Bool.false_and]
    rw [this, Ov]
end
theorem Q4 : D4 Try.prog 67 5 = true := by kernel_rfl
section
variable {p : List C} {E T ea : LL} {n s e ek : Int} {e1 e2 et : ByteArray} {h1 t1 h2 t2 : Bool} {b1 b2 : ByteArray}
noncomputable def Fl (p : List C) (n s e : Int) (E T : LL) (ek : Int) (e1 e2 : ByteArray) (ea : LL) (et : ByteArray) (h1 : Bool) (b1 : ByteArray) (h2 : Bool) (b2 : ByteArray) : Nat → LL
  | 0 => List.replicate (B1 (DD p)).toNat [C.int .u8 0]
  | i + 1 => upd (Fl p n s e E T ek e1 e2 ea et h1 b1 h2 b2 i) (B1 ((DD p).take i)) (nst ((DD p).getD i [])) (gd h1 b1 h2 b2 (B1 ((DD p).take i)) (Bo ((DD p).getD i [])) (Gc (DD p) ((DD p).map Cu) (Ca 0 (DD p)) n s e E T ek e1 e2 ea et (Fl p n s e E T ek e1 e2 ea et h1 b1 h2 b2 i) ((Bo ((DD p).getD i [])).T.map nf)))
theorem La (h : Cg p) : ∀ i, ((Fl p n s e E T ek e1 e2 ea et h1 b1 h2 b2 i).length : Int) = B1 (DD p) := by
  have := (Gk h.ded.good).1
  intro i
  induction i with
  | zero => show ((List.replicate _ _).length : Int) = _; rw [List.length_replicate]; omega
  | succ i ih => show ((upd _ _ _ _).length : Int) = _; rw [E4]; exact ih
theorem Abr (h : Cg p) : ∀ i, i ≤ (DD p).length → ∀ j : Nat, B1 ((DD p).take i) ≤ j → (j : Int) < B1 (DD p) → (Fl p n s e E T ek e1 e2 ea et h1 b1 h2 b2 i).getD j [] = [C.int .u8 0] := by
  intro i
  induction i with
  | zero =>
    intro _ j _ hj
    show (List.replicate _ _).getD j [] = _
    rw [List.getD_eq_getElem?_getD, List.getElem?_replicate, if_pos (by omega)]
    rfl
  | succ i ih =>
    intro hi j h0 hj
    have hl := La (n := n) (s := s) (e := e) (E := E) (T := T) (ek := ek) (e1 := e1) (e2 := e2) (ea := ea) (et := et) (h1 := h1) (b1 := b1) (h2 := h2) (b2 := b2) h i
    rw [I1 (show i < (DD p).length by omega), J1] at h0
    have e3 : B1 [(DD p).getD i []] = nst ((DD p).getD i []) := by simp [B1]
    have h4 := (h.ded.good _ (D1 (d := []) (show i < (DD p).length by omega))).nst
    show (upd _ _ _ _).getD j [] = _
    rw [I4 (by omega), if_neg (fun c => by have := c.2.1; omega)]
    exact ih (by omega) j (by omega) hj
theorem Q0 (h : Cg p) (hal : ea.length ≤ 1048576) {bits : LL} (hl : (bits.length : Int) = B1 (DD p)) {TT : LL} (hT : ∀ x, x ∈ TT → OkF x) : ∀ f, f ∈ TT → ∃ b, HH (DD p) ((DD p).map Cu) (Ca 0 (DD p)) n s e E T ek e1 e2 ea et bits f b := fun f hf =>
  G9 16 (Nat.le_refl _) (V7 (p := []) h hl hal) f (hT f hf).ok (hT f hf).sm
theorem Ny {x : List C} (h : Cg x) : (Bo x).E.length ≤ 190 ∧ (Bo x).T.length ≤ 64 ∧ (Bo x).n ≤ 128 := by
  have h1 := H6 16 _ _ _ 0 0 h.pok
  have h2 := h.pc
  have h3 := h1.e
  have h4 := h1.t
  have h5 := h1.hi
  unfold Bo
  omega
theorem Yb {x : List C} (h : Cg x) {hs : LL} (hl : hs.length = (Bo x).T.length) : ∀ r, r ∈ (Bo x).E → EdI 0 (Bo x).n 0 hs.length r := fun r hr => by
  have := (N0 16 _ _ _ 0 0 h.pok).ed r hr
  rw [hl]
  exact this.mono (Int.le_refl _) (Int.le_refl _) (Int.le_refl _) (by unfold Bo; omega)
theorem Sb (h : Cg p) (hal : ea.length ≤ 1048576) (k1 : h1 = true → (b1.size : Int) = B1 (DD p)) (k2 : h2 = true → (b2.size : Int) = B1 (DD p)) {i : Nat} (hi : i < (DD p).length) : PC ((DD p).map Cu) (Ca 0 (DD p)) i (B1 ((DD p).take i)) (Bo ((DD p).getD i [])) ((Bo ((DD p).getD i [])).T.map nf) (Gc (DD p) ((DD p).map Cu) (Ca 0 (DD p)) n s e E T ek e1 e2 ea et (Fl p n s e E T ek e1 e2 ea et h1 b1 h2 b2 i) ((Bo ((DD p).getD i [])).T.map nf)) (Fl p n s e E T ek e1 e2 ea et h1 b1 h2 b2 i) h1 b1 h2 b2 := by
  have hg := h.ded.good
  have hgi := hg _ (D1 (d := []) hi)
  have hlen : (DD p).length ≤ 63 := Nat.le_trans h.ded.len h.len
  have ea1 : ((DD p).map Cu).getD i [] = Cu ((DD p).getD i []) := by simp [List.getD_eq_getElem?_getD, hi]
  have hb := Gk hg
  have ht := (Gk (Mb hg i)).1
  have hle := Tl hg hi
  have hshp := N0 16 _ _ _ 0 0 hgi.pok
  have hbd := Ny hgi
  have hl := La (n := n) (s := s) (e := e) (E := E) (T := T) (ek := ek) (e1 := e1) (e2 := e2) (ea := ea) (et := et) (h1 := h1) (b1 := b1) (h2 := h2) (b2 := b2) h i
  refine ⟨by simpa using hi, by rw [M8]; exact hi, by rw [List.length_map]; omega, ?_, by rw [ea1]; rfl, by rw [ea1]; rfl, by rw [ea1]; rfl, by rw [ea1]; rfl, by rw [ea1]; rfl, ⟨ht, by rw [hl]; exact hle, fun q h0 h3 => ?_⟩, by omega, Yb hgi (by rw [Nr, List.length_map]), Yg 16 _ _ _ 0 0, hshp.e0, hshp.e1, by omega, by omega, fun h4 => by rw [k1 h4]; exact hle, fun h4 => by rw [k2 h4]; exact hle⟩
  · rw [Pk _ _ _ hi, Int.zero_add]; rfl
  · have h3 : q < nst ((DD p).getD i []) := h3
    exact Abr h i (by omega) _ (by omega) (by omega)
theorem Xx (h : Cg p) (hal : ea.length ≤ 1048576) (k1 : h1 = true → (b1.size : Int) = B1 (DD p)) (k2 : h2 = true → (b2.size : Int) = B1 (DD p)) : Tot (fun k _ _ => (lv k).Bu (DD p) ((DD p).map Cu) (Ca 0 (DD p)) n s e E T ek e1 e2 ea et h1 t1 b1 h2 t2 b2) (fun r => r = (true, ek == 2, Eu (Fl p n s e E T ek e1 e2 ea et h1 b1 h2 b2 (DD p).length))) := by
  have hg := h.ded.good
  have hlen : (DD p).length ≤ 63 := Nat.le_trans h.ded.len h.len
  have hb := Gk hg
  refine Bu_up _ _ _ _ _ _ _ _ _ _ _ _ _ _ _ _ _ _ _ (Tot.congr ?_ (fun k _ _ => Bu_q (lv k) k (DD p) ((DD p).map Cu) (Ca 0 (DD p)) n s e E T ek e1 e2 ea et h1 t1 b1 h2 t2 b2))
  refine Tot.bind (Xq _ _ _ _ _ _ _ _ (DD p) Cu rfl (fun _ => rfl) hg (by omega)) fun r hr => ?_
  subst hr
  refine Tot.t (decide_eq_true hb.1) (Tot.t (decide_eq_true (Int.le_refl _)) (Tot.both (D2 Px (by omega)) Q4 ?_))
  refine Tot.in0 (Tot.loop (H := fun k a q v w => Bu_l0 (lv k) k (DD p) ((DD p).map Cu) (Ca 0 (DD p)) n s e E T ek e1 e2 ea et h1 t1 b1 h2 t2 b2 a v (DD p) ((DD p).map Cu) (Ca 0 (DD p)) n s e E T ek e1 e2 ea et h1 t1 b1 h2 t2 b2 w) (n := (DD p).length) (fun i w => w = (Fl p n s e E T ek e1 e2 ea et h1 b1 h2 b2 i)) (by omega) (fun w hw => ?_) (fun i w hi hw next => ?_) _ 0 _ rfl (Nat.zero_le _) rfl)
  · subst hw
    refine Tot.step0 (fun k p_ q_ => Bu_l0_q (lv k) k (DD p) ((DD p).map Cu) (Ca 0 (DD p)) n s e E T ek e1 e2 ea et h1 t1 b1 h2 t2 b2 p_ _ _ _ _ _ _ _ _ _ _ _ _ _ _ _ _ _ _ _ _ _) ?_
    rw [List.length_map]
    exact Tot.f (decide_eq_false (by omega)) (Tot.ret rfl)
  · subst hw
    have c := Sb (n := n) (s := s) (e := e) (E := E) (T := T) (ek := ek) (e1 := e1) (e2 := e2) (ea := ea) (et := et) h hal k1 k2 hi
    have hgi := hg _ (D1 (d := []) hi)
    refine Tot.step0 (fun k p_ q_ => Bu_l0_q (lv k) k (DD p) ((DD p).map Cu) (Ca 0 (DD p)) n s e E T ek e1 e2 ea et h1 t1 b1 h2 t2 b2 p_ _ _ _ _ _ _ _ _ _ _ _ _ _ _ _ _ _ _ _ _ _) ?_
    rw [List.length_map]
    refine Tot.t (decide_eq_true (by omega)) (Tot.bind (Aaa c (Acm _ _ _ _ (Q0 h hal (La h i) (Rh hgi)) (by rw [List.length_map]; have := (Ny hgi).2.1; omega))) fun r hr => ?_)
    subst hr
    exact next _ rfl
end
section
variable {p : List C} {E T ea : LL} {n s e ek : Int} {e1 e2 et : ByteArray} {h1 t1 h2 t2 : Bool} {b1 b2 : ByteArray}
theorem Abi (h : Cg p) (hal : ea.length ≤ 1048576) (k1 : h1 = true → (b1.size : Int) = B1 (DD p)) (k2 : h2 = true → (b2.size : Int) = B1 (DD p)) : Tot (fun k _ _ => (lv k).Ad (DD p) ((DD p).map Cu) (Ca 0 (DD p)) n s e E T ek e1 e2 ea et h1 t1 b1 h2 t2 b2) (fun r => r = (true, ek == 2, Eu (Fl p n s e E T ek e1 e2 ea et h1 b1 h2 b2 (DD p).length))) := by
  have hg := h.ded.good
  have hlen : (DD p).length ≤ 63 := Nat.le_trans h.ded.len h.len
  have hb := Gk hg
  refine Ad_up _ _ _ _ _ _ _ _ _ _ _ _ _ _ _ _ _ _ _ (Tot.congr ?_ (fun k _ _ => Ad_q (lv k) k (DD p) ((DD p).map Cu) (Ca 0 (DD p)) n s e E T ek e1 e2 ea et h1 t1 b1 h2 t2 b2))
  refine Tot.bind (Aa9 _ _ _ _ _ _ _ _ (DD p) Cu rfl (fun _ => rfl) hg (by omega)) fun r hr => ?_
  subst hr
  refine Tot.t (decide_eq_true hb.1) (Tot.t (decide_eq_true (Int.le_refl _)) (Tot.both (D2 Px (by omega)) Q4 ?_))
  refine Tot.in0 (Tot.loop (H := fun k a q v w => Ad_l0 (lv k) k (DD p) ((DD p).map Cu) (Ca 0 (DD p)) n s e E T ek e1 e2 ea et h1 t1 b1 h2 t2 b2 a v w) (n := (DD p).length) (fun i w => w = (Fl p n s e E T ek e1 e2 ea et h1 b1 h2 b2 i)) (by omega) (fun w hw => ?_) (fun i w hi hw next => ?_) _ 0 _ rfl (Nat.zero_le _) rfl)
  · subst hw
    refine Tot.step0 (fun k p_ q_ => Ad_l0_q (lv k) k (DD p) ((DD p).map Cu) (Ca 0 (DD p)) n s e E T ek e1 e2 ea et h1 t1 b1 h2 t2 b2 p_ _ _) ?_
    rw [List.length_map]
    exact Tot.f (decide_eq_false (by omega)) (Tot.ret rfl)
  · subst hw
    have c := Sb (n := n) (s := s) (e := e) (E := E) (T := T) (ek := ek) (e1 := e1) (e2 := e2) (ea := ea) (et := et) h hal k1 k2 hi
    have hgi := hg _ (D1 (d := []) hi)
    have hTl : ((Bo ((DD p).getD i [])).T.map nf).length ≤ 64 := by rw [List.length_map]; exact (Ny hgi).2.1
    have hex := Q0 (n := n) (s := s) (e := e) (E := E) (T := T) (ek := ek) (e1 := e1) (e2 := e2) (et := et) h hal (La (n := n) (s := s) (e := e) (E := E) (T := T) (ek := ek) (e1 := e1) (e2 := e2) (ea := ea) (et := et) (h1 := h1) (b1 := b1) (h2 := h2) (b2 := b2) h i) (Rh hgi)
    refine Tot.step0 (fun k p_ q_ => Ad_l0_q (lv k) k (DD p) ((DD p).map Cu) (Ca 0 (DD p)) n s e E T ek e1 e2 ea et h1 t1 b1 h2 t2 b2 p_ _ _) ?_
    rw [List.length_map]
    simp only [Int.toNat_natCast, c.bN, c.bS, c.be, c.bE, c.bT]
    repeat (refine Tot.t (decide_eq_true (by omega)) ?_)
    generalize hTT : (Bo ((DD p).getD i [])).T.map nf = TT at c hTl hex
    have nx : Tot (fun k a q => Ad_l0 (lv k) k (DD p) ((DD p).map Cu) (Ca 0 (DD p)) n s e E T ek e1 e2 ea et h1 t1 b1 h2 t2 b2 a (IntKind.i64.wrap ((i : Int) + 1)) (upd (Fl p n s e E T ek e1 e2 ea et h1 b1 h2 b2 i) (B1 ((DD p).take i)) (Bo ((DD p).getD i [])).n (gd h1 b1 h2 b2 (B1 ((DD p).take i)) (Bo ((DD p).getD i [])) (Gc (DD p) ((DD p).map Cu) (Ca 0 (DD p)) n s e E T ek e1 e2 ea et (Fl p n s e E T ek e1 e2 ea et h1 b1 h2 b2 i) TT)))) (fun r => r = (true, ek == 2, Eu (Fl p n s e E T ek e1 e2 ea et h1 b1 h2 b2 (DD p).length))) := next _ (by subst hTT; rfl)
    generalize (Fl p n s e E T ek e1 e2 ea et h1 b1 h2 b2 i) = bits at c hex nx
    refine Tot.in1 (g := fun k p_ q_ => Ad_l1 (lv k) k (DD p) ((DD p).map Cu) (Ca 0 (DD p)) n s e E T ek e1 e2 ea et h1 t1 b1 h2 t2 b2 p_ q_ (i : Int) bits (Bo ((DD p).getD i [])).n (Bo ((DD p).getD i [])).s (Bo ((DD p).getD i [])).e (Bo ((DD p).getD i [])).E TT) ?_
    refine Tot.step1 (fun k p_ q_ => Ad_l1_q (lv k) k (DD p) ((DD p).map Cu) (Ca 0 (DD p)) n s e E T ek e1 e2 ea et h1 t1 b1 h2 t2 b2 p_ q_ _ _ _ _ _ _ _) ?_
    refine Tot.cond (fun h0 => ?_) (fun h0 => ?_)
    · have h0 := of_decide_eq_true h0
      have h0' : 0 < TT.length := by omega
      refine Tot.t (decide_eq_true (by omega)) (Tot.bind (L5 (hex _ (D1 (d := []) h0'))).rf fun r hr => ?_)
      subst hr
      refine Tot.loop (H := fun k a q v w => Ad_l3 (lv k) k (DD p) ((DD p).map Cu) (Ca 0 (DD p)) n s e E T ek e1 e2 ea et h1 t1 b1 h2 t2 b2 a q (i : Int) v bits (Bo ((DD p).getD i [])).n (Bo ((DD p).getD i [])).s (Bo ((DD p).getD i [])).e (Bo ((DD p).getD i [])).E TT w) (n := TT.length) (fun j w => w = Gc (DD p) ((DD p).map Cu) (Ca 0 (DD p)) n s e E T ek e1 e2 ea et bits (TT.take j)) (by omega) (fun w hw => ?_) (fun j w hj hw nx2 => ?_) _ 1 _ rfl (by omega) (by rw [L6 h0']; rfl)
      · rw [List.take_length] at hw
        subst hw
        refine Tot.step1 (fun k p_ q_ => Ad_l3_q (lv k) k (DD p) ((DD p).map Cu) (Ca 0 (DD p)) n s e E T ek e1 e2 ea et h1 t1 b1 h2 t2 b2 p_ q_ _ _ _ _ _ _ _ _ _) ?_
        exact Tot.f (decide_eq_false (by omega)) (Tot.in1 (Aas c nx))
      · have hwl : w.length ≤ 1000 := by rw [hw, Nr, List.length_take]; omega
        refine Tot.step1 (fun k p_ q_ => Ad_l3_q (lv k) k (DD p) ((DD p).map Cu) (Ca 0 (DD p)) n s e E T ek e1 e2 ea et h1 t1 b1 h2 t2 b2 p_ q_ _ _ _ _ _ _ _ _ _) ?_
        rw [Int.toNat_natCast]
        repeat (refine Tot.t (decide_eq_true (by omega)) ?_)
        refine Tot.bind (L5 (hex _ (D1 (d := []) hj))).rf fun r hr => ?_
        subst hr
        exact Tot.t (D2 Na (by omega)) (nx2 _ (by rw [L6 hj, hw]))
    · have h0 := of_decide_eq_false h0
      have e0 : TT = [] := List.length_eq_zero_iff.1 (by omega)
      clear hTT
      subst e0
      exact Tot.in1 (Aat c nx)
end
abbrev S3 := Bool × Bool × ByteArray
def no3 : S3 := (false, false, ⟨#[]⟩)
noncomputable def st3 (p : List C) (n s e : Int) (E T : LL) (a : List C) (x y : S3) : S3 :=
  (true, gi a 0 == 2, Eu (Fl p n s e E T (gi a 0) (gs a 1) (gs a 2) (gr a 3) (gs a 4) x.1 x.2.2 y.1 y.2.2 (DD p).length))
def OkS (p : List C) (x : S3) : Prop := x.1 = true → (x.2.2.size : Int) = B1 (DD p)
noncomputable def Hj (p : List C) (l : LL) (n s e : Int) (E T : LL) : Nat → Nat → S3
  | 0, _ => no3
  | b + 1, i => if i < l.length ∧ gi (l.getD i []) 0 ≠ 3 then st3 p n s e E T (l.getD i []) (if gi (l.getD i []) 0 = 1 then Hj p l n s e E T b (i + 1) else no3) (if 0 < i then Hj p l n s e E T b (Ea l i l.length i) else no3) else no3
noncomputable def srt (p : List C) (l : LL) (n s e : Int) (E T : LL) (i : Nat) : S3 := Hj p l n s e E T (l.length + 1) i
theorem Nl (l : LL) (a : Nat) : ∀ b i : Nat, i < l.length → i < Ea l a b i := by
  intro b
  induction b with
  | zero => intro i h; exact h
  | succ b ih =>
    intro i h
    rw [Ea, if_pos h]
    split
    · omega
    · rcases Nat.lt_or_ge (i + 1) l.length with h2 | h2
      · have := ih (i + 1) h2; omega
      · have : Ea l a b (i + 1) = l.length := by
          cases b with
          | zero => rfl
          | succ b => rw [Ea, if_neg (by omega)]
        omega
theorem Wb (l : LL) (a : Nat) : ∀ b i : Nat, Ea l a b i ≤ l.length := by
  intro b
  induction b with
  | zero => intro i; exact Nat.le_refl _
  | succ b ih =>
    intro i
    rw [Ea]
    split
    · split
      · omega
      · exact ih _
    · omega
section
variable {p : List C} {l : LL} {n s e : Int} {E T : LL}
theorem Td : ∀ b b' i : Nat, l.length - i < b → l.length - i < b' → Hj p l n s e E T b i = Hj p l n s e E T b' i := by
  intro b
  induction b with
  | zero => intro b' i h; omega
  | succ b ih =>
    intro b' i h h'
    obtain ⟨b', rfl⟩ : ∃ c, b' = c + 1 := ⟨b' - 1, by omega⟩
    rw [Hj, Hj]
    by_cases hi : i < l.length ∧ gi (l.getD i []) 0 ≠ 3
    · have hg := Nl l i l.length i hi.1
      rw [if_pos hi, if_pos hi, ih b' (i + 1) (by omega) (by omega), ih b' (Ea l i l.length i) (by omega) (by omega)]
    · rw [if_neg hi, if_neg hi]
theorem Mq (i : Nat) : srt p l n s e E T i = if i < l.length ∧ gi (l.getD i []) 0 ≠ 3 then st3 p n s e E T (l.getD i []) (if gi (l.getD i []) 0 = 1 then srt p l n s e E T (i + 1) else no3) (if 0 < i then srt p l n s e E T (Ea l i l.length i) else no3) else no3 := by
  show Hj p l n s e E T (l.length + 1) i = _
  rw [Hj]
  by_cases hi : i < l.length ∧ gi (l.getD i []) 0 ≠ 3
  · have hg := Nl l i l.length i hi.1
    rw [if_pos hi, if_pos hi]
    unfold srt
    rw [Td l.length (l.length + 1) (i + 1) (by omega) (by omega), Td l.length (l.length + 1) (Ea l i l.length i) (by omega) (by omega)]
  · rw [if_neg hi, if_neg hi]
theorem Jk : OkS p no3 := fun h => by cases h
theorem Ab4 (h : Cg p) (a : List C) (x y : S3) : OkS p (st3 p n s e E T a x y) := fun _ => by
  unfold st3
  rw [Oj]
  exact La h _
theorem Jz (h : Cg p) (i : Nat) : OkS p (srt p l n s e E T i) := by
  rw [Mq]
  split
  · exact Ab4 h _ _ _
  · exact Jk
theorem Abh (h : Cg p) (hl : SmL BB l) : ∀ b i : Nat, l.length - i < b → i ≤ l.length → Tot (fun k _ _ => (lv k).Ct (DD p) ((DD p).map Cu) (Ca 0 (DD p)) n s e E T l (i : Int)) (fun r => r = srt p l n s e E T i) := by
  have hlen : l.length ≤ 1048576 := hl.1
  intro b
  induction b with
  | zero => intro i h; omega
  | succ b ih =>
    intro i hb hi
    rw [Mq]
    refine Ct_up _ _ _ _ _ _ _ _ _ _ (Tot.congr ?_ (fun k _ _ => Ct_q (lv k) k (DD p) ((DD p).map Cu) (Ca 0 (DD p)) n s e E T l (i : Int)))
    refine Tot.cond (fun c => Tot.ret (by rw [if_neg (by have := of_decide_eq_true c; omega)]; rfl)) (fun c => ?_)
    have c : i < l.length := by have := of_decide_eq_false c; omega
    have hg := Nl l i l.length i c
    have hge := Wb l i l.length i
    have hal : (gr (l.getD i []) 3).length ≤ 1048576 := ((hl.get i).gr 3).1
    rw [Int.toNat_natCast, Ag (x := (i : Int) + 1) (by omega) (by omega), show (i : Int) + 1 = ((i + 1 : Nat) : Int) by omega]
    repeat (refine Tot.t (decide_eq_true (by omega)) ?_)
    refine Tot.cond (fun d => Tot.ret (by rw [if_neg (fun h => h.2 (eq_of_beq d))]; rfl)) (fun d => ?_)
    have d := ne_of_beq_false d
    rw [if_pos ⟨c, d⟩]
    have kst : ∀ x y : S3, OkS p x → OkS p y → Tot (fun k _ _ => ((lv k).Ad (DD p) ((DD p).map Cu) (Ca 0 (DD p)) n s e E T (gi (l.getD i []) 0) (gs (l.getD i []) 1) (gs (l.getD i []) 2) (gr (l.getD i []) 3) (gs (l.getD i []) 4) x.1 x.2.1 x.2.2 y.1 y.2.1 y.2.2).bind fun r => some (r.1, r.2.1, r.2.2)) (fun r => r = st3 p n s e E T (l.getD i []) x y) := fun x y hx hy => Tot.bind (Abi h hal hx hy) fun r hr => Tot.ret (by subst hr; rfl)
    repeat (refine Tot.t (decide_eq_true (by omega)) ?_)
    refine Tot.cond (fun d1 => Tot.bind (ih (i + 1) (by omega) (by omega)) fun r1 h1 => ?_) (fun d1 => ?_)
    · subst h1
      rw [if_pos (eq_of_beq d1)]
      refine Tot.cond (fun z => ?_) (fun z => ?_)
      · rw [if_pos (by have := of_decide_eq_true z; omega)]
        refine Tot.bind (Qa l hl i (by omega)) fun r2 h2 => ?_
        subst h2
        refine Tot.bind (ih _ (by omega) hge) fun r3 h3 => ?_
        subst h3
        repeat (refine Tot.t (decide_eq_true (by omega)) ?_)
        exact kst _ _ (Jz h _) (Jz h _)
      · rw [if_neg (by have := of_decide_eq_false z; omega)]
        repeat (refine Tot.t (decide_eq_true (by omega)) ?_)
        exact kst _ no3 (Jz h _) Jk
    · rw [if_neg (ne_of_beq_false d1)]
      refine Tot.cond (fun z => ?_) (fun z => ?_)
      · rw [if_pos (by have := of_decide_eq_true z; omega)]
        refine Tot.bind (Qa l hl i (by omega)) fun r2 h2 => ?_
        subst h2
        refine Tot.bind (ih _ (by omega) hge) fun r3 h3 => ?_
        subst h3
        repeat (refine Tot.t (decide_eq_true (by omega)) ?_)
        exact kst no3 _ Jk (Jz h _)
      · rw [if_neg (by have := of_decide_eq_false z; omega)]
        repeat (refine Tot.t (decide_eq_true (by omega)) ?_)
        exact kst no3 no3 Jk Jk
end
structure Fp (l : LL) (i : Nat) (k : Int) (j : Nat) : Prop where
  le : i ≤ j
  jl : j ≤ l.length
  d : dp l j = k
  n : ∀ m, i ≤ m → m < j → dp l m ≠ k
theorem P9 {l : LL} (hd : G3 l) {a : Nat} (ha : a < l.length) (hk : gi (l.getD a []) 0 ≠ 3) : Fp l (a + 1) (dp l a) (Ea l a l.length a) := by
  have d0 := (G4 (l := l) (n := a) fun j hj => hd.2.1 j (by omega)).1
  have key : ∀ b i : Nat, l.length - i < b + 1 → a ≤ i → i ≤ l.length → (∀ m, a < m → m ≤ i → dp l a < dp l m) → Fp l (a + 1) (dp l a) (Ea l a b i) := by
    intro b
    induction b with
    | zero =>
      intro i h1 h2 h3 h4
      have e : i = l.length := by omega
      have := h4 l.length (by omega) (by omega)
      rw [hd.2.2] at this
      omega
    | succ b ih =>
      intro i h1 h2 h3 h4
      rw [Ea]
      by_cases h5 : i < l.length
      · rw [if_pos h5]
        have hu := G5 (l := l) (n := i)
        by_cases h6 : dp l (i + 1) = dp l a
        · rw [if_pos h6]
          exact ⟨by omega, by omega, h6, fun m hm1 hm2 => by have := h4 m (by omega) (by omega); omega⟩
        · rw [if_neg h6]
          refine ih (i + 1) (by omega) (by omega) (by omega) fun m hm1 hm2 => ?_
          rcases Nat.lt_or_ge m (i + 1) with g | g
          · exact h4 m hm1 (by omega)
          · rw [show m = i + 1 by omega]
            rcases Nat.eq_or_lt_of_le h2 with e | e
            · subst e
              rw [if_neg hk] at hu
              split at hu <;> omega
            · have := h4 i (by omega) (by omega)
              split at hu
              · omega
              · split at hu <;> omega
      · have e : i = l.length := by omega
        have := h4 l.length (by omega) (by omega)
        rw [hd.2.2] at this
        omega
  exact key l.length a (by omega) (Nat.le_refl _) (by omega) fun m h1 h2 => by omega
def c3 (x : S3) : List C := [C.bool x.1, C.bool x.2.1, C.str x.2.2]
theorem Mo {r : List C} (h : r.length = 3) (a b c : C) : ((r.set 0 a).set 1 b).set 2 c = [a, b, c] := by
  match r, h with
  | [_, _, _], _ => rfl
theorem Jc {a : LL} {i : Nat} {x : List C} (h : i < a.length) : (a.set i x).getD i [] = x := by
  rw [List.getD_eq_getElem?_getD, List.getElem?_set_self h]; rfl
theorem L4 {a : LL} {i j : Nat} {x : List C} (h : i ≠ j) : (a.set i x).getD j [] = a.getD j [] := by
  rw [List.getD_eq_getElem?_getD, List.getElem?_set_ne h, ← List.getD_eq_getElem?_getD]
theorem Lw {l : LL} {a b : Nat} (h : a ≤ b) : Ch l a ≤ Ch l b := by
  induction b with
  | zero => rw [show a = 0 by omega]; exact Nat.le_refl _
  | succ b ih =>
    rcases Nat.eq_or_lt_of_le h with e | e
    · rw [e]; exact Nat.le_refl _
    · have := ih (by omega)
      rw [Ch]
      split <;> omega
theorem Ki {l : LL} {i : Nat} (h : gi (l.getD i []) 0 ≠ 3) : Ch l (i + 1) = Ch l i + 1 := by rw [Ch, if_neg h]
theorem Ni {l : LL} {i : Nat} (h : gi (l.getD i []) 0 = 3) : Ch l (i + 1) = Ch l i := by rw [Ch, if_pos h]
structure WhI (p : List C) (l : LL) (n s e : Int) (E T : LL) (out v : LL) (m i : Nat) : Prop where
  ol : out.length = Ch l l.length
  o3 : ∀ j, j < out.length → (out.getD j []).length = 3
  o : ∀ j, i ≤ j → j < l.length → gi (l.getD j []) 0 ≠ 3 → out.getD (Ch l j) [] = c3 (srt p l n s e E T j)
  em : (m : Int) = dp l i + 1
  ml : m ≤ v.length
  v3 : ∀ j, j < v.length → (v.getD j []).length = 3
  b : ∀ (k : Int) (j : Nat), 0 ≤ k → k ≤ dp l i → Fp l i k j → v.getD k.toNat [] = c3 (srt p l n s e E T j)
section
variable {p : List C} {l : LL} {n s e : Int} {E T : LL} {out v : LL} {m i : Nat}
theorem Om {j : Nat} (h : ¬ (j < l.length ∧ gi (l.getD j []) 0 ≠ 3)) : srt p l n s e E T j = no3 := by rw [Mq, if_neg h]
theorem Qq {a b : LL} {j : Nat} (h : j < a.length) : (a ++ b).getD j [] = a.getD j [] := by
  rw [List.getD_eq_getElem?_getD, List.getElem?_append_left h, ← List.getD_eq_getElem?_getD]
theorem Qp {a : LL} {x : List C} : (a ++ [x]).getD a.length [] = x := by
  rw [List.getD_eq_getElem?_getD, List.getElem?_append_right (Nat.le_refl _), Nat.sub_self]; rfl
theorem WhI.close (w : WhI p l n s e E T out v m (i + 1)) (hb : Ef l l.length) (hi : i < l.length) (hk : gi (l.getD i []) 0 = 3) : WhI p l n s e E T out (v.take m ++ [c3 no3]) (m + 1) i := by
  have hu := G5 (l := l) (n := i)
  rw [if_neg (by omega), if_pos hk] at hu
  have hm := w.em
  have hml := w.ml
  have tl : (v.take m).length = m := by rw [List.length_take]; omega
  have tg : ∀ j, j < m → (v.take m).getD j [] = v.getD j [] := fun j hj => by rw [List.getD_eq_getElem?_getD, List.getElem?_take_of_lt hj, ← List.getD_eq_getElem?_getD]
  refine ⟨w.ol, w.o3, fun j hj hjl hne => ?_, by omega, by rw [List.length_append, tl]; exact Nat.le_refl _, fun j hj => ?_, fun k j hk0 hk1 hf => ?_⟩
  · rcases Nat.eq_or_lt_of_le hj with g | g
    · subst g; exact absurd hk hne
    · exact w.o j (by omega) hjl hne
  · rw [List.length_append, tl] at hj
    have hj : j < m + 1 := hj
    rcases Nat.lt_or_ge j m with g | g
    · rw [Qq (by omega), tg j g]; exact w.v3 j (by omega)
    · have e : j = (v.take m).length := by omega
      rw [e, Qp]; rfl
  · by_cases g : k = dp l i
    · have e : k.toNat = (v.take m).length := by omega
      have e2 : j = i := by
        rcases Nat.eq_or_lt_of_le hf.le with h | h
        · exact h.symm
        · exact absurd g.symm (hf.n i (Nat.le_refl _) h)
      rw [e, Qp, e2, Om (fun h => h.2 hk)]
    · rw [Qq (by omega), tg _ (by omega)]
      refine w.b k j hk0 (by omega) ⟨?_, hf.jl, hf.d, fun x hx => hf.n x (by omega)⟩
      rcases Nat.eq_or_lt_of_le hf.le with h | h
      · subst h; exact absurd hf.d.symm g
      · exact h
theorem WhI.node (w : WhI p l n s e E T out v m (i + 1)) (hb : Ef l l.length) (hi : i < l.length) (hk : gi (l.getD i []) 0 ≠ 3) {m' : Nat} (hm' : (m' : Int) = dp l i + 1) : WhI p l n s e E T (out.set (Ch l i) (c3 (srt p l n s e E T i))) (v.set (dp l i).toNat (c3 (srt p l n s e E T i))) m' i := by
  have hu := G5 (l := l) (n := i)
  rw [if_neg hk] at hu
  have hm := w.em
  have hml := w.ml
  have hcl := Lw (l := l) (show i + 1 ≤ l.length from hi)
  have hcn := Ki hk
  have hle : dp l i ≤ dp l (i + 1) := by split at hu <;> omega
  have d0 := (G4 (l := l) (n := i) fun j hj => hb j (by omega)).1
  have hol := w.ol
  refine ⟨by rw [List.length_set]; exact hol, fun j hj => ?_, fun j hj hjl hne => ?_, hm', by rw [List.length_set]; omega, fun j hj => ?_, fun k j hk0 hk1 hf => ?_⟩
  · rw [List.length_set] at hj
    by_cases g : Ch l i = j
    · subst g; rw [Jc hj]; rfl
    · rw [L4 g]; exact w.o3 j hj
  · rcases Nat.eq_or_lt_of_le hj with g | g
    · subst g; rw [Jc (by omega)]
    · have := Lw (l := l) (show i + 1 ≤ j from g)
      rw [L4 (by omega)]
      exact w.o j (by omega) hjl hne
  · rw [List.length_set] at hj
    by_cases g : (dp l i).toNat = j
    · subst g; rw [Jc hj]; rfl
    · rw [L4 g]; exact w.v3 j hj
  · by_cases g : k = dp l i
    · have e2 : j = i := by
        rcases Nat.eq_or_lt_of_le hf.le with h | h
        · exact h.symm
        · exact absurd g.symm (hf.n i (Nat.le_refl _) h)
      rw [g, Jc (by omega), e2]
    · rw [L4 (by omega)]
      refine w.b k j hk0 (by omega) ⟨?_, hf.jl, hf.d, fun x hx => hf.n x (by omega)⟩
      rcases Nat.eq_or_lt_of_le hf.le with h | h
      · subst h; exact absurd hf.d.symm g
      · exact h
theorem nxt (hd : G3 l) (hi : i < l.length) (hk : gi (l.getD i []) 0 ≠ 3) : (if 0 < i then srt p l n s e E T (Ea l i l.length i) else no3) = srt p l n s e E T (Ea l i l.length i) := by
  by_cases h0 : 0 < i
  · rw [if_pos h0]
  · rw [if_neg h0]
    have e0 : i = 0 := by omega
    subst e0
    have hf := P9 hd hi hk
    have hdd : dp l (Ea l 0 l.length 0) = 0 := hf.d
    refine (Om fun h => ?_).symm
    have := (hd.2.1 _ h.1).2.2.1 (by have := hf.le; omega)
    exact this hdd
theorem WhI.next (w : WhI p l n s e E T out v m (i + 1)) (hd : G3 l) (hi : i < l.length) (hk : gi (l.getD i []) 0 ≠ 3) : v.getD (dp l i).toNat [] = c3 (srt p l n s e E T (Ea l i l.length i)) := by
  have hu := G5 (l := l) (n := i)
  rw [if_neg hk] at hu
  have hle : dp l i ≤ dp l (i + 1) := by split at hu <;> omega
  have d0 := (G4 (l := l) (n := i) fun j hj => hd.2.1 j (by omega)).1
  exact w.b _ _ d0 hle (P9 hd hi hk)
theorem WhI.first (w : WhI p l n s e E T out v m (i + 1)) (hd : G3 l) (hi : i < l.length) : v.getD (dp l (i + 1)).toNat [] = c3 (srt p l n s e E T (i + 1)) := by
  have d0 := (G4 (l := l) (n := i + 1) fun j hj => hd.2.1 j (by omega)).1
  exact w.b _ _ d0 (Int.le_refl _) ⟨Nat.le_refl _, by omega, rfl, fun m h1 h2 => by omega⟩
def WhR (p : List C) (l : LL) (n s e : Int) (E T : LL) (r : LL) : Prop := r.length = Ch l l.length ∧ ∀ j, j < l.length → gi (l.getD j []) 0 ≠ 3 → r.getD (Ch l j) [] = c3 (srt p l n s e E T j)
theorem Nb : Try.prog.bytesOf 44 ≤ 1024 := of_decide_eq_true (by kernel_rfl)
theorem Ac8 (h : Cg p) (hl : SmL BB l) (hd : G3 l) : ∀ i, i ≤ l.length →
    (∀ out v, WhI p l n s e E T out v v.length i → Tot (fun k p_ _ => Au_l0 (lv k) k (DD p) ((DD p).map Cu) (Ca 0 (DD p)) n s e E T l p_ (Ch l i : Int) ((i : Int) - 1) out v) (WhR p l n s e E T)) ∧
    (∀ out v m, WhI p l n s e E T out v m i → Tot (fun k p_ _ => Au_l3 (lv k) k (DD p) ((DD p).map Cu) (Ca 0 (DD p)) n s e E T l p_ (Ch l i : Int) m ((i : Int) - 1) out v) (WhR p l n s e E T)) := by
  have hlen : l.length ≤ 1048576 := hl.1
  intro i
  induction i with
  | zero =>
    intro _
    have fin : ∀ out v m, WhI p l n s e E T out v m 0 → WhR p l n s e E T out := fun out v m w => ⟨w.ol, fun j hj hne => w.o j (Nat.zero_le _) hj hne⟩
    refine ⟨fun out v w => ?_, fun out v m w => ?_⟩
    · refine Tot.step0 (fun k p_ q_ => Au_l0_q (lv k) k (DD p) ((DD p).map Cu) (Ca 0 (DD p)) n s e E T l p_ (Ch l 0 : Int) (((0 : Nat) : Int) - 1) out v) ?_
      exact Tot.f (decide_eq_false (by omega)) (Tot.ret (fin _ _ _ w))
    · refine Tot.step0 (fun k p_ q_ => Au_l3_q (lv k) k (DD p) ((DD p).map Cu) (Ca 0 (DD p)) n s e E T l p_ (Ch l 0 : Int) m (((0 : Nat) : Int) - 1) out v) ?_
      exact Tot.f (decide_eq_false (by omega)) (Tot.ret (fin _ _ _ w))
  | succ i ih =>
    intro hi
    obtain ⟨ih0, ih3⟩ := ih (by omega)
    have hi : i < l.length := hi
    rw [show (((i + 1 : Nat) : Int) - 1) = (i : Int) by omega]
    have hal : (gr (l.getD i []) 3).length ≤ 1048576 := ((hl.get i).gr 3).1
    have hcl := Lw (l := l) (show i + 1 ≤ l.length from hi)
    have hcle := Lu l l.length
    have dr := G4 (l := l) (n := i) fun j hj => hd.2.1 j (by omega)
    have dr1 := G4 (l := l) (n := i + 1) fun j hj => hd.2.1 j (by omega)
    have hu := G5 (l := l) (n := i)
    have wr : IntKind.i64.wrap ((i : Int) - 1) = (i : Int) - 1 := Ag (by omega) (by omega)
    have step : ∀ (x y : S3), gi (l.getD i []) 0 ≠ 3 → x = (if gi (l.getD i []) 0 = 1 then srt p l n s e E T (i + 1) else no3) → y = srt p l n s e E T (Ea l i l.length i) → Tot (fun k _ _ => (lv k).Bu (DD p) ((DD p).map Cu) (Ca 0 (DD p)) n s e E T (gi (l.getD i []) 0) (gs (l.getD i []) 1) (gs (l.getD i []) 2) (gr (l.getD i []) 3) (gs (l.getD i []) 4) x.1 x.2.1 x.2.2 y.1 y.2.1 y.2.2) (fun r => r = srt p l n s e E T i) := fun x y hk hx hy => by
      have ox : OkS p x := by
        rw [hx]
        split
        · exact Jz h _
        · exact Jk
      have oy : OkS p y := by rw [hy]; exact Jz h _
      refine (Xx h hal ox oy).mono fun r hr => ?_
      rw [Mq, if_pos ⟨hi, hk⟩, ← hx, nxt hd hi hk, ← hy]
      exact hr
    have l1 : ∀ out v m (x : S3) (m' : Nat), WhI p l n s e E T out v m (i + 1) → gi (l.getD i []) 0 ≠ 3 → x = (if gi (l.getD i []) 0 = 1 then srt p l n s e E T (i + 1) else no3) → (m' : Int) = dp l i + 1 → Tot (fun k p_ _ => Au_l1 (lv k) k (DD p) ((DD p).map Cu) (Ca 0 (DD p)) n s e E T l p_ (Ch l i : Int) m' (i : Int) (dp l i) out v x.1 x.2.1 x.2.2) (WhR p l n s e E T) := fun out v m x m' w hk hx hm' => by
      have hol := w.ol
      have hml := w.ml
      have hwm := w.em
      have hcn := Ki hk
      rw [if_neg hk] at hu
      have hle : dp l i ≤ dp l (i + 1) := by split at hu <;> omega
      refine Tot.congr ?_ (fun k p_ q_ => Au_l1_q (lv k) k (DD p) ((DD p).map Cu) (Ca 0 (DD p)) n s e E T l p_ (Ch l i : Int) m' (i : Int) (dp l i) out v x.1 x.2.1 x.2.2)
      simp only [Int.toNat_natCast, Nat.zero_add, wr, Mo (w.o3 (Ch l i) (by omega)), Mo (w.v3 (dp l i).toNat (by omega)), Jc (a := out) (i := Ch l i) (by omega), List.length_set, w.next hd hi hk]
      repeat (refine Tot.t (decide_eq_true (by omega)) ?_)
      refine Tot.bind (step x (srt p l n s e E T (Ea l i l.length i)) hk hx rfl) fun r hr => ?_
      subst hr
      repeat (refine Tot.t (decide_eq_true (by omega)) ?_)
      exact ih3 _ _ _ (w.node hd.2.1 hi hk hm')
    refine ⟨fun out v w => ?_, fun out v m w => ?_⟩
    · have hol := w.ol
      have hwm := w.em
      refine Tot.step0 (fun k p_ q_ => Au_l0_q (lv k) k (DD p) ((DD p).map Cu) (Ca 0 (DD p)) n s e E T l p_ (Ch l (i + 1) : Int) (i : Int) out v) ?_
      rw [Int.toNat_natCast, wr]
      repeat (refine Tot.t (decide_eq_true (by omega)) ?_)
      refine Tot.cond (fun c => ?_) (fun c => ?_)
      · have c := eq_of_beq c
        have w' := w.close hd.2.1 hi c
        refine Tot.t (D2 Nb (by omega)) ?_
        rw [List.take_length] at w'
        rw [Ni c]
        have := ih0 out (v ++ [c3 no3]) (by rw [List.length_append]; exact w')
        exact this
      · have c := ne_of_beq_false c
        have hcn := Ki c
        rw [if_neg c] at hu
        rw [hcn, show (((Ch l i + 1 : Nat) : Int) - 1) = (Ch l i : Int) by omega, Ag (x := (Ch l i : Int)) (by omega) (by omega), Ag (x := (v.length : Int) - 1) (by omega) (by omega), show (v.length : Int) - 1 = dp l (i + 1) by omega]
        repeat (refine Tot.t (decide_eq_true (by omega)) ?_)
        refine Tot.cond (fun d => ?_) (fun d => ?_)
        · have d := eq_of_beq d
          rw [if_pos d] at hu
          rw [Ag (x := dp l (i + 1) - 1) (by omega) (by omega), show dp l (i + 1) - 1 = dp l i by omega, w.first hd hi]
          repeat (refine Tot.t (decide_eq_true (by omega)) ?_)
          exact l1 out v v.length (srt p l n s e E T (i + 1)) _ w c (by rw [if_pos d]) (by omega)
        · have d := ne_of_beq_false d
          rw [if_neg d] at hu
          rw [hu]
          refine Tot.congr ?_ (fun k p_ q_ => Au_l2_q (lv k) k (DD p) ((DD p).map Cu) (Ca 0 (DD p)) n s e E T l p_ (Ch l i : Int) (i : Int) (dp l i) out v)
          simp only [Int.toNat_natCast, Nat.zero_add, wr, Mo (w.o3 (Ch l i) (by omega)), Mo (w.v3 (dp l i).toNat (by omega)), Jc (a := out) (i := Ch l i) (by omega), List.length_set, w.next hd hi c]
          repeat (refine Tot.t (decide_eq_true (by omega)) ?_)
          refine Tot.bind (step no3 (srt p l n s e E T (Ea l i l.length i)) c (by rw [if_neg d]) rfl) fun r hr => ?_
          subst hr
          repeat (refine Tot.t (decide_eq_true (by omega)) ?_)
          refine ih0 _ _ ?_
          rw [List.length_set]
          exact w.node hd.2.1 hi c (by omega)
    · have hol := w.ol
      have hwm := w.em
      have hwl := w.ml
      refine Tot.step0 (fun k p_ q_ => Au_l3_q (lv k) k (DD p) ((DD p).map Cu) (Ca 0 (DD p)) n s e E T l p_ (Ch l (i + 1) : Int) m (i : Int) out v) ?_
      rw [Int.toNat_natCast, wr]
      repeat (refine Tot.t (decide_eq_true (by omega)) ?_)
      refine Tot.cond (fun c => ?_) (fun c => ?_)
      · have c := eq_of_beq c
        have w' := w.close hd.2.1 hi c
        refine Tot.t (D2 Nb (by omega)) ?_
        rw [Ni c]
        have := ih0 out (v.take m ++ [c3 no3]) (by rw [show (v.take m ++ [c3 no3]).length = m + 1 by rw [List.length_append, List.length_take, Nat.min_eq_left hwl]; rfl]; exact w')
        exact this
      · have c := ne_of_beq_false c
        have hcn := Ki c
        rw [if_neg c] at hu
        rw [hcn, show (((Ch l i + 1 : Nat) : Int) - 1) = (Ch l i : Int) by omega, Ag (x := (Ch l i : Int)) (by omega) (by omega), Ag (x := (m : Int) - 1) (by omega) (by omega), show (m : Int) - 1 = dp l (i + 1) by omega]
        repeat (refine Tot.t (decide_eq_true (by omega)) ?_)
        refine Tot.cond (fun d => ?_) (fun d => ?_)
        · have d := eq_of_beq d
          rw [if_pos d] at hu
          rw [Ag (x := dp l (i + 1) - 1) (by omega) (by omega), show dp l (i + 1) - 1 = dp l i by omega, Nat.zero_add, w.first hd hi]
          repeat (refine Tot.t (decide_eq_true (by omega)) ?_)
          exact l1 out v m (srt p l n s e E T (i + 1)) _ w c (by rw [if_pos d]) (by omega)
        · have d := ne_of_beq_false d
          rw [if_neg d] at hu
          rw [hu]
          exact l1 out v m no3 _ w c (by rw [if_neg d]) (by omega)
theorem Ac9 (h : Cg p) (hl : SmL BB l) (hd : G3 l) : Tot (fun k _ _ => (lv k).Au (DD p) ((DD p).map Cu) (Ca 0 (DD p)) n s e E T l) (WhR p l n s e E T) := by
  have hlen : l.length ≤ 1048576 := hl.1
  have hcle := Lu l l.length
  refine Au_up _ _ _ _ _ _ _ _ _ (Tot.congr ?_ (fun k _ _ => Au_q (lv k) k (DD p) ((DD p).map Cu) (Ca 0 (DD p)) n s e E T l))
  refine Tot.bind (T2 l hl) fun r hr => Tot.f (by rw [hr.2 hd]; rfl) (Tot.bind (Yl l hl hd.2.1) fun r2 h2 => ?_)
  rw [h2]
  refine Tot.t (decide_eq_true (by omega)) (Tot.t (decide_eq_true (by omega)) (Tot.both (D2 Nb (by omega)) (by kernel_rfl) ?_))
  rw [Int.toNat_natCast, List.length_replicate, Ag (x := (l.length : Int) - 1) (by omega) (by omega)]
  refine Tot.in0 ((Ac8 h hl hd l.length (Nat.le_refl _)).1 _ _ ⟨List.length_replicate, fun j hj => ?_, fun j h1 h2 => by omega, by rw [hd.2.2]; rfl, Nat.le_refl _, fun j hj => ?_, fun k j hk0 hk1 hf => ?_⟩)
  · rw [List.length_replicate] at hj
    rw [List.getD_eq_getElem?_getD, List.getElem?_replicate, if_pos hj]; rfl
  · have e : j = 0 := by have : j < 1 := hj; omega
    subst e; rfl
  · have e1 : j = l.length := by have := hf.le; have := hf.jl; omega
    rw [hd.2.2] at hk1
    have e2 : k = 0 := by omega
    subst e1; subst e2
    rw [Om (fun h => by have := h.1; omega)]
    rfl
end
theorem Abq (x : S3) : (!((gb (c3 x) 0 == x.1) && ((gb (c3 x) 1 == x.2.1) && ((gs (c3 x) 2 == x.2.2) && true)))) = false := by
  obtain ⟨a, b, c⟩ := x
  show (!((a == a) && ((b == b) && ((c == c) && true)))) = false
  simp [M6]
theorem Ada (p : List C) (l : LL) (hp : SmR BB p) (hl : SmL BB l) : Tot (fun k _ _ => (lv k).Bn (gi p 0) (gr p 1) (gr p 2) l) (fun r => r = true) := by
  have hlen : l.length ≤ 1048576 := hl.1
  have aw : Tot (fun n _ _ => ((lv n).Dn).bind fun r => some r) (fun r => r = true) := Tot.bind Pi fun r hr => Tot.ret hr
  refine Bn_up _ _ _ _ (Tot.congr ?_ (fun k _ _ => Bn_q (lv k) k (gi p 0) (gr p 1) (gr p 2) l))
  refine Tot.bind Pi fun r hr => ?_
  subst hr
  refine Tot.f rfl (Tot.bind (Aa5 p hp) fun r hr => Tot.cond (fun _ => aw) (fun hb => ?_))
  have hrt : r = true := by simpa using hb
  subst hrt
  have h := Acn hp (hr rfl)
  refine Tot.cond (fun _ => aw) (fun _ => ?_)
  refine Tot.bind (Wm l hlen (fun i => ((hl.get i).gr 3).1)) fun r _ => Tot.cond (fun _ => aw) (fun _ => ?_)
  refine Tot.bind (Aba h) fun r hr => ?_
  subst hr
  by_cases hd : G3 l
  · refine Tot.bind (Ac9 h hl hd) fun g hg => Tot.bind (S8 l hl) fun r hr => Tot.f (by rw [hr.2 hd]; rfl) ?_
    obtain ⟨hg1, hg2⟩ := hg
    have hcle := Lu l l.length
    refine Tot.in0 (Tot.loop (H := fun k p_ q v (w : Nat) => Bn_l0 (lv k) k (gi p 0) (gr p 1) (gr p 2) l p_ (w : Int) v _ _ _ _ _ g _ _ _) (n := l.length) (fun i w => w = Ch l i) (by omega) (fun w hw => ?_) (fun i w hi hw next => ?_) _ 0 0 rfl (by omega) rfl)
    · subst hw
      refine Tot.step0 (fun k p_ q_ => Bn_l0_q (lv k) k (gi p 0) (gr p 1) (gr p 2) l p_ _ _ _ _ _ _ _ _ _ _ _) ?_
      exact Tot.f (decide_eq_false (by omega)) (Tot.ret (by rw [hg1, beq_self_eq_true]))
    · subst hw
      refine Tot.step0 (fun k p_ q_ => Bn_l0_q (lv k) k (gi p 0) (gr p 1) (gr p 2) l p_ _ _ _ _ _ _ _ _ _ _ _) ?_
      rw [Int.toNat_natCast]
      repeat (refine Tot.t (decide_eq_true (by omega)) ?_)
      refine Tot.cond (fun c => ?_) (fun c => ?_)
      · have := next _ rfl
        rw [Ni (eq_of_beq c)] at this
        exact this
      · have c := ne_of_beq_false c
        have hcn := Ki c
        have hcl := Lw (l := l) (show i + 1 ≤ l.length from hi)
        refine Tot.f (decide_eq_false (by omega)) ?_
        repeat (refine Tot.t (decide_eq_true (by omega)) ?_)
        refine Tot.bind (Abh h hl _ i (Nat.lt_succ_self _) (by omega)) fun r hr => ?_
        subst hr
        rw [Int.toNat_natCast, hg2 i hi c]
        refine Tot.f (Abq _) ?_
        · have := next _ rfl
          rw [hcn] at this
          rw [Ag (x := (Ch l i : Int) + 1) (by omega) (by omega), show (Ch l i : Int) + 1 = ((Ch l i + 1 : Nat) : Int) by omega]
          exact this
  · refine Tot.bind (R := fun g => g = []) ?_ fun g hg => Tot.bind (S8 l hl) fun r hr => Tot.t ?_ (Tot.ret (by rw [hg]; rfl))
    · refine Au_up _ _ _ _ _ _ _ _ _ (Tot.congr ?_ (fun k _ _ => Au_q (lv k) k (DD p) ((DD p).map Cu) (Ca 0 (DD p)) _ _ _ _ _ l))
      exact Tot.bind (T2 l hl) fun r hr => Tot.t (by cases r with | true => exact absurd (hr.1 rfl) hd | false => rfl) (Tot.ret rfl)
    · cases r with
      | true => exact absurd (hr.1 rfl) hd
      | false => rfl
end Go.Vm.T
