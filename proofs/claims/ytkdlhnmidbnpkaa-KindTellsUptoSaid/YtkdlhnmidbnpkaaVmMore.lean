/- The plain law. -/
import Derived.Test.YtkdlhnmidbnpkaaVmPure
import Derived.Test.YtkdlhnmidbnpkaaVmTbb
import Derived.Test.YtkdlhnmidbnpkaaVmEq
set_option linter.unusedVariables false
set_option linter.unusedSimpArgs false
namespace Go.Vm.T
open Go Go.Vm Go.Proofs
attribute [local irreducible] lv Av_b Av_l0 Av_l1 Av_l2 Dt_b Br_b Br_l0 Br_l1 C2_b Ah_b Ah_l0 Ah_l1 Ah_l2 Ah_l3 Ah_l4 Ah_l5 Ah_l6 Cq_b Ar_b Ar_l0 Ar_l1 Ar_l2 Ar_l3 Bh_b Bh_l0 Bh_l1 B3_b B3_l0 Bd_b Bd_l0 Bd_l1 Bl_b Bl_l0 Bl_l1 B4_b B4_l0 Ce_b Ce_l0 Ao_b Ao_l0 Ao_l1 Ao_l2 Ao_l3 Bs_b Bs_l0 Bs_l1 C8_b B9_b B9_l0 Cv_b Cw_b Cx_b Cg_b Cg_l0 Ch_b Ch_l0 Ci_b Ci_l0 Dw_b C9_b Dn_b Ca_b Ca_l0 Dm_b Cj_b Cj_l0 Dv_b C5_b B7_b B7_l0 At_b At_l0 At_l1 At_l2 At_l3 Dd_b B6_b B6_l0 Dr_b Dc_b Dl_b A9_b A9_l0 A9_l1 Dq_b Df_b C3_b B1_b B1_l0 Bv_b Bv_l0 Bv_l1 Db_b An_b An_l0 An_l1 An_l2 An_l3 B0_b B0_l0 Do_b Bp_b Bp_l0 Bp_l1 B5_b B5_l0 Bi_b Bi_l0 Bi_l1 Dp_b Dh_b Dg_b Co_b Co_l0 Co_l1 Co_l2 Cf_b Cf_l0 Da_b Dj_b Du_b Bg_b Bg_l0 Bg_l1 Bm_b Bm_l0 Bm_l1 Bb_b Bb_l0 Bb_l1 Aj_b Aj_l0 Aj_l1 Aj_l2 Aj_l3 Aj_l4 Dk_b Bf_b Bf_l0 Bx_b Bx_l0 Ba_b Ba_l0 Ba_l1 Cu_b Bc_b Bc_l0 Cp_b Ag_b Ag_l0 Ag_l1 Ag_l2 Ag_l3 Ag_l4 Ap_b Ap_l0 Ap_l1 Bj_b Bj_l0 Bj_l1 C0_b C1_b Bt_b Bt_l0 Cz_b Di_b B8_b B8_l0 A5_b A5_l0 A5_l1 A5_l2 A6_b A6_l0 A6_l1 A6_l2 De_b Bo_b Bo_l0 Bo_l1 Cd_b Cd_l0 Cc_b Cc_l0 Bn_b Bn_l0 Bn_l1 A8_b A8_l0 A8_l1 Ab_b Ab_l0 Ab_l1 Ab_l2 Ab_l3 Ab_l4 Ab_l5 Ab_l6 Ab_l7 Ab_l8 Ab_l9 Ab_l10 Ab_l11 Ab_l12 Ab_l13 Cm_b Bz_b Bz_l0 Cn_b A7_b A7_l0 A7_l1 By_b By_l0 Bu_b Bu_l0
theorem Rz : Try.prog.bytesOf 83 ≤ 1024 := of_decide_eq_true (by kernel_rfl)
theorem Ry : Try.prog.bytesOf 66 ≤ 1024 := of_decide_eq_true (by kernel_rfl)
theorem Gx : Try.prog.bytesOf 3 ≤ 1024 := of_decide_eq_true (by kernel_rfl)
abbrev fr (d : Nat) (r : List C) (n t : Int) : Mk := mk d (gi r 0) (gr r 1) (gr r 2) n t
def Fr (l : List Int) : LL := l.map fun b => [C.int .i64 b]
theorem Y7 {l rest : List Int} {b : Int} {i : Nat} (h : l.drop i = b :: rest) : i < (Fr l).length ∧ gi ((Fr l).getD i []) 0 = b ∧ l.drop (i + 1) = rest := by
 have h1 : i < l.length := by
  rcases Nat.lt_or_ge i l.length with h1 | h1
  ·exact h1
  ·rw [List.drop_eq_nil_of_le h1] at h; cases h
 rw [List.drop_eq_getElem_cons h1] at h
 obtain ⟨h2, h3⟩ := List.cons.inj h
 refine ⟨by simpa [Fr] using h1, ?_, h3⟩
 rw [List.getD_eq_getElem?_getD, Fr, List.getElem?_map, List.getElem?_eq_getElem h1, h2]
 rfl
theorem Ug {d : Nat} {op : Int} {r : List C} {l tests : LL} {n t : Int} (h : op = 4) : mk (d + 1) op (r :: l) tests n t = Ed (fr d) t l (fr d r n t) := by
 show (if op = 4 then _ else _) = _
 rw [if_pos h]
theorem Uh {d : Nat} {op : Int} {subs tests : LL} {n t : Int} (h : op = 5) : mk (d + 1) op subs tests n t = ⟨(Cr (fr d) t n subs ⟨n + 1, [], [], []⟩).n + 1, (Cr (fr d) t n subs ⟨n + 1, [], [], []⟩).E ++ (Cr (fr d) t n subs ⟨n + 1, [], [], []⟩).es.map (fun b => st4 b (Cr (fr d) t n subs ⟨n + 1, [], [], []⟩).n 0 0), (Cr (fr d) t n subs ⟨n + 1, [], [], []⟩).T, n, (Cr (fr d) t n subs ⟨n + 1, [], [], []⟩).n⟩ := by
 show (if op = 4 then _ else if op = 5 then _ else _) = _
 rw [if_neg (by omega), if_pos h]
theorem Ui {d : Nat} {op : Int} {r : List C} {l tests : LL} {n t : Int} (h : op = 6) : mk (d + 1) op (r :: l) tests n t = ⟨(fr d r (n + 1) t).n, (fr d r (n + 1) t).E ++ [st4 n (fr d r (n + 1) t).s 0 0] ++ [st4 (fr d r (n + 1) t).e n 0 0], (fr d r (n + 1) t).T, n, n⟩ := by
 show (if op = 4 then _ else if op = 5 then _ else if op = 6 then _ else _) = _
 rw [if_neg (by omega), if_neg (by omega), if_pos h]
theorem Uj {d : Nat} {op : Int} {subs tests : LL} {n t : Int} (h : op = 7) : mk (d + 1) op subs tests n t = ⟨n + 2, [st4 n (n + 1) 3 t], tests, n, n + 1⟩ := by
 show (if op = 4 then _ else if op = 5 then _ else if op = 6 then _ else if op = 7 then _ else _) = _
 rw [if_neg (by omega), if_neg (by omega), if_neg (by omega), if_pos h]
theorem Uf {d : Nat} {op : Int} {subs tests : LL} {n t : Int} (h4 : op ≠ 4) (h5 : op ≠ 5) (h6 : op ≠ 6) (h7 : op ≠ 7) : mk (d + 1) op subs tests n t = ⟨n + 2, [st4 n (n + 1) (Gq op) 0], [], n, n + 1⟩ := by
 show (if op = 4 then _ else if op = 5 then _ else if op = 6 then _ else if op = 7 then _ else _) = _
 rw [if_neg h4, if_neg h5, if_neg h6, if_neg h7]
def nf (r : List C) : List C := [C.int .i64 (gi r 0), C.str (gs r 1), C.str (gs r 2), C.str (gs r 3), C.row 66 (gr r 4), C.row 25 (gr r 5)]
theorem Hx (n s e : Int) (E T : LL) (a b kd t : Int) (h : E.length ≤ 3000000000) : Tot (fun k _ _ => (lv k).Cq n s e E T a b kd t) (fun r => r = (n, s, e, E ++ [st4 a b kd t], T)) := by
 refine Cq_up _ _ _ _ _ _ _ _ _ (Tot.congr ?_ (fun _ _ _ => Cq_q ..))
 exact Tot.t (D5 Rz (by omega)) (Tot.t (D5 Rz (by omega)) (Tot.ret rfl))
def RA (d : Nat) : Prop := ∀ (op : Int) (subs tests : LL) (n s e : Int) (E T : LL), POk d op subs tests → 0 ≤ n → n + 2 * pc d subs ≤ 1000000 → E.length + 3 * pc d subs ≤ 1000000 → T.length + pc d subs ≤ 1000000 →
 Tot (fun k _ _ => (lv k).Ah n s e E T op subs tests) (fun r => r = ((mk d op subs tests n T.length).n, s, e, E ++ (mk d op subs tests n T.length).E, T ++ (mk d op subs tests n T.length).T.map nf, (mk d op subs tests n T.length).s, (mk d op subs tests n T.length).e))
theorem Aed {d : Nat} (ih : RA d) (r0 r1 : List C) (l0 : LL) (tests : LL) (hsub : ∀ r, r ∈ r0 :: r1 :: l0 → POk d (gi r 0) (gr r 1) (gr r 2)) (hlen : l0.length ≤ 1000) (n s e : Int) (E T : LL) (h0 : 0 ≤ n) (hn : n + 2 * pcs d (r0 :: r1 :: l0) ≤ 1000000) (hE : E.length + 3 * pcs d (r0 :: r1 :: l0) ≤ 1000000) (hT : T.length + pcs d (r0 :: r1 :: l0) ≤ 1000000) (al : Mk) (hal : al = Ed (fr d) T.length (r1 :: l0) (fr d r0 n T.length)) :
  Tot (fun k _ _ => ((lv k).Ah n s e E T (gi r0 0) (gr r0 1) (gr r0 2)).bind fun q => Ah_l3 (lv k) k n s e E T 4 (r0 :: r1 :: l0) tests k q.2.2.2.2.2.1 q.1 q.2.1 q.2.2.1 q.2.2.2.1 q.2.2.2.2.1 q.2.2.2.2.2.1 q.2.2.2.2.2.2) (fun r => r = (al.n, s, e, E ++ al.E, T ++ al.T.map nf, al.s, al.e)) := by
 have hl : ((r0 :: r1 :: l0).length : Int) = l0.length + 2 := by simp; omega
 rw [Hi, Hi] at hn hE hT
 have loop : ∀ (rest : LL) (m : Mk) (v : Int), al = Ed (fr d) T.length rest m → 0 ≤ v → (r0 :: r1 :: l0).drop v.toNat = rest → 0 ≤ m.n → m.n + 2 * pcs d rest ≤ 1000000 → E.length + m.E.length + 3 * pcs d rest ≤ 1000000 → T.length + m.T.length + pcs d rest ≤ 1000000 →
   Tot (fun k a b => Ah_l5 (lv k) k n s e E T 4 (r0 :: r1 :: l0) tests a m.s v m.n s e (T ++ m.T.map nf) m.s m.e (E ++ m.E)) (fun r => r = (al.n, s, e, E ++ al.E, T ++ al.T.map nf, al.s, al.e)) := by
  intro rest
  induction rest with
  | nil =>
   intro m v hm hv hr _ _ _ _
   obtain rfl : al = m := hm
   refine Tot.step0 (fun k a b => Ah_l5_q (lv k) k n s e E T 4 (r0 :: r1 :: l0) tests a al.s v al.n s e (T ++ al.T.map nf) al.s al.e (E ++ al.E)) ?_
   have := List.drop_eq_nil_iff.1 hr
   exact Tot.f (decide_eq_false (by omega)) (Tot.ret rfl)
  | cons r rest ihr =>
   intro m v hm hv hr h1 h2 h3 h4
   obtain ⟨g1, g2, g3⟩ := Sj hr
   refine Tot.step0 (fun k a b => Ah_l5_q (lv k) k n s e E T 4 (r0 :: r1 :: l0) tests a m.s v m.n s e (T ++ m.T.map nf) m.s m.e (E ++ m.E)) ?_
   rw [g2, Ai (x := v + 1) (by omega) (by omega)]
   have hok : POk d (gi r 0) (gr r 1) (gr r 2) := hsub r (by rw [← g2]; exact Eb g1)
   rw [Hi] at h2 h3 h4
   obtain ⟨b1, b2, b3, b4⟩ := (show MkB (pc d (gr r 1)) m.n (fr d r m.n (T.length + m.T.length)) from Iy d _ _ _ m.n _ hok)
   refine Tot.t (decide_eq_true (by omega)) (Tot.t (decide_eq_true (by omega)) (Tot.t (decide_eq_true (by omega)) ?_))
   have hp := ih _ _ _ m.n s e (E ++ m.E) (T ++ m.T.map nf) hok h1 (by omega) (by rw [List.length_append]; omega) (by rw [List.length_append, List.length_map]; omega)
   rw [show ((T ++ m.T.map nf).length : Int) = T.length + m.T.length by simp] at hp
   refine Tot.bind hp fun x hx => ?_
   subst hx
   have he : (E ++ m.E ++ (fr d r m.n (T.length + m.T.length)).E).length ≤ 3000000000 := by simp only [List.length_append]; omega
   refine Tot.bind (Hx _ s e _ _ _ _ 0 0 he) fun x hx => ?_
   subst hx
   have := ihr ⟨(fr d r m.n (T.length + m.T.length)).n, m.E ++ ((fr d r m.n (T.length + m.T.length)).E ++ [st4 m.e (fr d r m.n (T.length + m.T.length)).s 0 0]), m.T ++ (fr d r m.n (T.length + m.T.length)).T, m.s, (fr d r m.n (T.length + m.T.length)).e⟩ (v + 1) hm (by omega) (by rw [show (v + 1).toNat = v.toNat + 1 by omega]; exact g3)
   have := this (by show (0 : Int) ≤ (fr d r m.n (T.length + m.T.length)).n; omega) (by show (fr d r m.n (T.length + m.T.length)).n + _ ≤ _; omega) (by show E.length + (m.E ++ ((fr d r m.n (T.length + m.T.length)).E ++ [_])).length + _ ≤ _; simp only [List.length_append, List.length_cons, List.length_nil]; omega) (by show T.length + (m.T ++ (fr d r m.n (T.length + m.T.length)).T).length + _ ≤ _; simp only [List.length_append]; omega)
   simp only [List.map_append, List.append_assoc] at this ⊢
   exact this
 have hok := hsub r0 List.mem_cons_self
 have hok1 := hsub r1 (List.mem_cons_of_mem _ List.mem_cons_self)
 obtain ⟨b1, b2, b3, b4⟩ := (show MkB (pc d (gr r0 1)) n (fr d r0 n T.length) from Iy d _ _ _ n _ hok)
 refine Tot.bind (ih _ _ _ n s e E T hok h0 (by omega) (by omega) (by omega)) fun x hx => ?_
 subst hx
 refine Tot.in0 (g := fun k a _ => Ah_l3 (lv k) k n s e E T 4 (r0 :: r1 :: l0) tests a (fr d r0 n T.length).s (fr d r0 n T.length).n s e (E ++ (fr d r0 n T.length).E) (T ++ (fr d r0 n T.length).T.map nf) (fr d r0 n T.length).s (fr d r0 n T.length).e) (Tot.step0 (fun k a b => Ah_l3_q (lv k) k n s e E T 4 (r0 :: r1 :: l0) tests a (fr d r0 n T.length).s (fr d r0 n T.length).n s e (E ++ (fr d r0 n T.length).E) (T ++ (fr d r0 n T.length).T.map nf) (fr d r0 n T.length).s (fr d r0 n T.length).e) ?_)
 refine Tot.t (decide_eq_true (by omega)) (Tot.t (decide_eq_true (by omega)) ?_)
 obtain ⟨c1, c2, c3, c4⟩ := (show MkB (pc d (gr r1 1)) (fr d r0 n T.length).n (fr d r1 (fr d r0 n T.length).n (T.length + (fr d r0 n T.length).T.length)) from Iy d _ _ _ _ _ hok1)
 have hp := ih _ _ _ (fr d r0 n T.length).n s e (E ++ (fr d r0 n T.length).E) (T ++ (fr d r0 n T.length).T.map nf) hok1 (by omega) (by omega) (by rw [List.length_append]; omega) (by rw [List.length_append, List.length_map]; omega)
 rw [show ((T ++ (fr d r0 n T.length).T.map nf).length : Int) = T.length + (fr d r0 n T.length).T.length by simp] at hp
 refine Tot.bind hp fun x hx => ?_
 subst hx
 generalize hm : fr d r0 n T.length = m at *
 have he : (E ++ m.E ++ (fr d r1 m.n (T.length + m.T.length)).E).length ≤ 3000000000 := by simp only [List.length_append]; omega
 refine Tot.bind (Hx _ s e _ _ _ _ 0 0 he) fun x hx => ?_
 subst hx
 have := loop l0 ⟨(fr d r1 m.n (T.length + m.T.length)).n, m.E ++ ((fr d r1 m.n (T.length + m.T.length)).E ++ [st4 m.e (fr d r1 m.n (T.length + m.T.length)).s 0 0]), m.T ++ (fr d r1 m.n (T.length + m.T.length)).T, m.s, (fr d r1 m.n (T.length + m.T.length)).e⟩ 2 hal (by omega) rfl (by show (0 : Int) ≤ (fr d r1 m.n (T.length + m.T.length)).n; omega) (by show (fr d r1 m.n (T.length + m.T.length)).n + _ ≤ _; omega) (by show E.length + (m.E ++ ((fr d r1 m.n (T.length + m.T.length)).E ++ [_])).length + _ ≤ _; simp only [List.length_append, List.length_cons, List.length_nil]; omega) (by show T.length + (m.T ++ (fr d r1 m.n (T.length + m.T.length)).T).length + _ ≤ _; simp only [List.length_append]; omega)
 simp only [List.map_append, List.append_assoc] at this ⊢
 exact this
theorem Aec {d : Nat} (ih : RA d) (r0 : List C) (l0 : LL) (tests : LL) (hsub : ∀ r, r ∈ r0 :: l0 → POk d (gi r 0) (gr r 1) (gr r 2)) (hlen : l0.length ≤ 1000) (n s e : Int) (E T : LL) (h0 : 0 ≤ n) (hn : n + 2 * (1 + pcs d (r0 :: l0)) ≤ 1000000) (hE : E.length + 3 * (1 + pcs d (r0 :: l0)) ≤ 1000000) (hT : T.length + pcs d (r0 :: l0) ≤ 1000000) (al : Al) (hal : al = Cr (fr d) T.length n (r0 :: l0) ⟨n + 1, [], [], []⟩) :
  Tot (fun k _ _ => Ah_l0 (lv k) k n s e E T 5 (r0 :: l0) tests k) (fun r => r = (al.n + 1, s, e, E ++ (al.E ++ al.es.map (fun b => st4 b al.n 0 0)), T ++ al.T.map nf, n, al.n)) := by
 have hl : ((r0 :: l0).length : Int) = l0.length + 1 := by simp
 have l6 : ∀ (es rest : List Int) (v1 : Int) (n' : Int) (E' T' : LL) (v : Int), 0 ≤ v → es.length ≤ 1000000 → es.drop v.toNat = rest → E'.length + rest.length ≤ 3000000 → Tot (fun k a b => Ah_l6 (lv k) k n s e E T 5 (r0 :: l0) tests a v1 v n' s e T' (Fr es) E') (fun r => r = (n', s, e, E' ++ rest.map (fun b => st4 b v1 0 0), T', n, v1)) := by
  intro es rest
  induction rest with
  | nil =>
   intro v1 n' E' T' v hv he hr _
   refine Tot.step0 (fun k a b => Ah_l6_q (lv k) k n s e E T 5 (r0 :: l0) tests a v1 v n' s e T' (Fr es) E') ?_
   have := List.drop_eq_nil_iff.1 hr
   have e1 : (Fr es).length = es.length := by simp [Fr]
   exact Tot.f (decide_eq_false (by omega)) (Tot.ret (by simp))
  | cons b rest ihr =>
   intro v1 n' E' T' v hv he hr hb
   obtain ⟨g1, g2, g3⟩ := Y7 hr
   have e1 : (Fr es).length = es.length := by simp [Fr]
   refine Tot.step0 (fun k a b => Ah_l6_q (lv k) k n s e E T 5 (r0 :: l0) tests a v1 v n' s e T' (Fr es) E') ?_
   rw [g2, Ai (x := v + 1) (by omega) (by omega)]
   simp only [List.length_cons] at hb
   refine Tot.t (decide_eq_true (by omega)) (Tot.t (decide_eq_true (by omega)) (Tot.t (decide_eq_true (by omega)) ?_))
   refine Tot.bind (Hx n' s e E' T' b v1 0 0 (by omega)) fun x hx => ?_
   subst hx
   have := ihr v1 n' (E' ++ [st4 b v1 0 0]) T' (v + 1) (by omega) he (by rw [show (v + 1).toNat = v.toNat + 1 by omega]; exact g3) (by simp; omega)
   rw [List.append_assoc] at this
   exact this
 have loop : ∀ (rest : LL) (m : Al) (v : Int), al = Cr (fr d) T.length n rest m → 0 ≤ v → (r0 :: l0).drop v.toNat = rest → 0 ≤ m.n → m.n + 2 * pcs d rest ≤ 1000000 → E.length + m.E.length + 3 * pcs d rest + m.es.length ≤ 1000000 → T.length + m.T.length + pcs d rest ≤ 1000000 → m.es.length + rest.length ≤ 2000 →
   Tot (fun k a b => Ah_l4 (lv k) k n s e E T 5 (r0 :: l0) tests a v m.n s e (T ++ m.T.map nf) (Fr m.es) (E ++ m.E)) (fun r => r = (al.n + 1, s, e, E ++ (al.E ++ al.es.map (fun b => st4 b al.n 0 0)), T ++ al.T.map nf, n, al.n)) := by
  intro rest
  induction rest with
  | nil =>
   intro m v hm hv hr g1 g2 g3 g4 g5
   obtain rfl : al = m := hm
   refine Tot.step0 (fun k a b => Ah_l4_q (lv k) k n s e E T 5 (r0 :: l0) tests a v al.n s e (T ++ al.T.map nf) (Fr al.es) (E ++ al.E)) ?_
   have := List.drop_eq_nil_iff.1 hr
   refine Tot.f (decide_eq_false (by omega)) ?_
   rw [Ai (x := al.n + 1) (by omega) (by omega)]
   have := l6 al.es al.es al.n (al.n + 1) (E ++ al.E) (T ++ al.T.map nf) 0 (by omega) (by omega) rfl (by rw [List.length_append]; omega)
   rw [List.append_assoc] at this
   exact Tot.in0 this
  | cons r rest ihr =>
   intro m v hm hv hr h1 h2 h3 h4 h5
   obtain ⟨g1, g2, g3⟩ := Sj hr
   refine Tot.step0 (fun k a b => Ah_l4_q (lv k) k n s e E T 5 (r0 :: l0) tests a v m.n s e (T ++ m.T.map nf) (Fr m.es) (E ++ m.E)) ?_
   rw [g2, Ai (x := v + 1) (by omega) (by omega)]
   have hok : POk d (gi r 0) (gr r 1) (gr r 2) := hsub r (by rw [← g2]; exact Eb g1)
   rw [Hi] at h2 h3 h4
   simp only [List.length_cons] at h5
   obtain ⟨b1, b2, b3, b4⟩ := (show MkB (pc d (gr r 1)) m.n (fr d r m.n (T.length + m.T.length)) from Iy d _ _ _ m.n _ hok)
   refine Tot.t (decide_eq_true (by omega)) (Tot.t (decide_eq_true (by omega)) (Tot.t (decide_eq_true (by omega)) ?_))
   have hp := ih _ _ _ m.n s e (E ++ m.E) (T ++ m.T.map nf) hok h1 (by omega) (by rw [List.length_append]; omega) (by rw [List.length_append, List.length_map]; omega)
   rw [show ((T ++ m.T.map nf).length : Int) = T.length + m.T.length by simp] at hp
   refine Tot.bind hp fun x hx => ?_
   subst hx
   have he : (E ++ m.E ++ (fr d r m.n (T.length + m.T.length)).E).length ≤ 3000000000 := by simp only [List.length_append]; omega
   refine Tot.bind (Hx _ s e _ _ _ _ 0 0 he) fun x hx => ?_
   subst hx
   refine Tot.t (D5 Gx (by simp [Fr]; omega)) ?_
   have := ihr ⟨(fr d r m.n (T.length + m.T.length)).n, m.E ++ ((fr d r m.n (T.length + m.T.length)).E ++ [st4 n (fr d r m.n (T.length + m.T.length)).s 0 0]), m.T ++ (fr d r m.n (T.length + m.T.length)).T, m.es ++ [(fr d r m.n (T.length + m.T.length)).e]⟩ (v + 1) hm (by omega) (by rw [show (v + 1).toNat = v.toNat + 1 by omega]; exact g3)
   have := this (by show (0 : Int) ≤ (fr d r m.n (T.length + m.T.length)).n; omega) (by show (fr d r m.n (T.length + m.T.length)).n + _ ≤ _; omega) (by show E.length + (m.E ++ ((fr d r m.n (T.length + m.T.length)).E ++ [_])).length + _ + (m.es ++ [_]).length ≤ _; simp only [List.length_append, List.length_cons, List.length_nil]; omega) (by show T.length + (m.T ++ (fr d r m.n (T.length + m.T.length)).T).length + _ ≤ _; simp only [List.length_append]; omega) (by show (m.es ++ [_]).length + _ ≤ _; simp only [List.length_append, List.length_cons, List.length_nil]; omega)
   simp only [Fr, List.map_append, List.map_cons, List.map_nil, List.append_assoc] at this ⊢
   exact this
 refine Tot.in0 (g := fun k a _ => Ah_l0 (lv k) k n s e E T 5 (r0 :: l0) tests a) (Tot.step0 (fun k a b => Ah_l0_q (lv k) k n s e E T 5 (r0 :: l0) tests a) ?_)
 have hok : POk d (gi r0 0) (gr r0 1) (gr r0 2) := hsub r0 List.mem_cons_self
 rw [Hi] at hn hE hT
 rw [Ai (x := n + 1) (by omega) (by omega)]
 obtain ⟨b1, b2, b3, b4⟩ := (show MkB (pc d (gr r0 1)) (n + 1) (fr d r0 (n + 1) T.length) from Iy d _ _ _ (n + 1) _ hok)
 refine Tot.t (decide_eq_true (by omega)) (Tot.t (decide_eq_true (by omega)) ?_)
 refine Tot.bind (ih _ _ _ (n + 1) s e E T hok (by omega) (by show n + 1 + 2 * (pc d (gr r0 1) : Int) ≤ _; omega) (by show E.length + 3 * pc d (gr r0 1) ≤ _; omega) (by show T.length + pc d (gr r0 1) ≤ _; omega)) fun x hx => ?_
 subst hx
 refine Tot.bind (Hx _ s e _ _ _ _ 0 0 (by show (E ++ (fr d r0 (n + 1) T.length).E).length ≤ _; rw [List.length_append]; omega)) fun x hx => ?_
 subst hx
 have := loop l0 ⟨(fr d r0 (n + 1) T.length).n, (fr d r0 (n + 1) T.length).E ++ [st4 n (fr d r0 (n + 1) T.length).s 0 0], (fr d r0 (n + 1) T.length).T, [(fr d r0 (n + 1) T.length).e]⟩ 1 (by rw [hal]; simp [Cr]) (by omega) rfl (by show (0 : Int) ≤ (fr d r0 (n + 1) T.length).n; omega) (by show (fr d r0 (n + 1) T.length).n + _ ≤ _; omega) (by show E.length + ((fr d r0 (n + 1) T.length).E ++ [_]).length + _ + 1 ≤ _; rw [List.length_append]; simp only [List.length_cons, List.length_nil]; omega) (by show T.length + (fr d r0 (n + 1) T.length).T.length + _ ≤ _; omega) (by show 1 + l0.length ≤ _; omega)
 simp only [Fr, List.map_cons, List.map_nil, ← List.append_assoc] at this ⊢
 exact this
theorem Aee : ∀ d, RA d := by
 intro d
 induction d with
 | zero => intro op subs tests n s e E T h; exact h.elim
 | succ d ih =>
  intro op subs tests n s e E T hok h0 hn hE hT
  obtain ⟨h1, h7, h45, h6, h77, ht, hl, hz, hsub⟩ := hok
  rw [U6] at hn hE hT
  refine Ah_up _ _ _ _ _ _ _ _ (Tot.congr ?_ (fun _ _ _ => Ah_q ..))
  have plain : ∀ kd, op ≠ 4 → op ≠ 5 → op ≠ 6 → (op ≠ 7 → Gq op = kd) → Tot (fun k _ _ => Ah_l1 (lv k) k n s e E T op subs tests kd) (fun r => r = ((mk (d + 1) op subs tests n T.length).n, s, e, E ++ (mk (d + 1) op subs tests n T.length).E, T ++ (mk (d + 1) op subs tests n T.length).T.map nf, (mk (d + 1) op subs tests n T.length).s, (mk (d + 1) op subs tests n T.length).e)) := by
   intro kd a4 a5 a6 hk
   refine Tot.congr ?_ (fun _ _ _ => Ah_l1_q ..)
   rw [Ai (x := n + 2) (by omega) (by omega), Ai (x := n + 1) (by omega) (by omega)]
   refine Tot.cond (fun e7 => ?_) (fun e7 => ?_)
   ·have e7 := eq_of_beq e7
    have htl := h77.1 e7
    rw [Uj e7]
    refine Tot.t (D5 Ry (by omega)) (Tot.t (decide_eq_true (by omega)) (Tot.t (D5 Ry (by omega)) ?_))
    have e1 : tests.map nf = [nf (tests.getD 0 [])] := by
     cases tests with
     | nil => simp at htl
     | cons r l =>
      cases l with
      | nil => rfl
      | cons _ _ => simp at htl
    refine Tot.bind (Hx (n + 2) s e E _ n (n + 1) 3 (T.length : Int) (by omega)) fun x hx => Tot.ret ?_
    subst hx
    rw [e1]
    rfl
   ·have e7 := ne_of_beq_false e7
    rw [Uf a4 a5 a6 e7]
    refine Tot.bind (Hx (n + 2) s e E T n (n + 1) kd 0 (by omega)) fun x hx => Tot.ret ?_
    subst hx
    rw [hk e7]
    simp
  refine Tot.cond (fun e4 => ?_) (fun e4 => Tot.cond (fun e5 => ?_) (fun e5 => Tot.cond (fun e6 => ?_) (fun e6 => ?_)))
  ·have e4 := eq_of_beq e4
   subst e4
   cases subs with
   | nil => have := h45 (.inl rfl); simp at this
   | cons r0 l0 =>
    cases l0 with
    | nil => have := h45 (.inl rfl); simp at this
    | cons r1 l0 =>
     rw [Ug rfl]
     refine Tot.t (decide_eq_true (by simp only [List.length_cons]; omega)) ?_
     exact Aed ih r0 r1 l0 tests hsub (by simp at hl; omega) n s e E T h0 (by omega) (by omega) (by omega) _ rfl
  ·have e5 := eq_of_beq e5
   subst e5
   cases subs with
   | nil => have := h45 (.inr rfl); simp at this
   | cons r0 l0 =>
    rw [Uh rfl]
    exact Aec ih r0 l0 tests hsub (by simp at hl; omega) n s e E T h0 (by omega) (by omega) (by omega) _ rfl
  ·have e6 := eq_of_beq e6
   cases subs with
   | nil => have := h6 e6; simp at this
   | cons r0 l0 =>
    have hok : POk d (gi r0 0) (gr r0 1) (gr r0 2) := hsub r0 List.mem_cons_self
    rw [Hi] at hn hE hT
    obtain ⟨b1, b2, b3, b4⟩ := (show MkB (pc d (gr r0 1)) (n + 1) (fr d r0 (n + 1) T.length) from Iy d _ _ _ (n + 1) _ hok)
    rw [Ai (x := n + 1) (by omega) (by omega), Ui e6]
    refine Tot.t (decide_eq_true (by simp only [List.length_cons]; omega)) ?_
    refine Tot.bind (ih _ _ _ (n + 1) s e E T hok (by omega) (by show n + 1 + 2 * (pc d (gr r0 1) : Int) ≤ _; omega) (by show E.length + 3 * pc d (gr r0 1) ≤ _; omega) (by show T.length + pc d (gr r0 1) ≤ _; omega)) fun x hx => ?_
    subst hx
    refine Tot.bind (Hx _ s e _ _ _ _ 0 0 (by show (E ++ (fr d r0 (n + 1) T.length).E).length ≤ _; rw [List.length_append]; omega)) fun x hx => ?_
    subst hx
    refine Tot.bind (Hx _ s e _ _ _ _ 0 0 (by show (E ++ (fr d r0 (n + 1) T.length).E ++ [_]).length ≤ _; simp only [List.length_append, List.length_cons, List.length_nil]; omega)) fun x hx => Tot.ret ?_
    subst hx
    simp only [List.append_assoc]
    rfl
  ·have a4 := ne_of_beq_false e4
   have a5 := ne_of_beq_false e5
   have a6 := ne_of_beq_false e6
   refine Tot.cond (fun e2 => ?_) (fun e2 => Tot.cond (fun e3 => plain 2 a4 a5 a6 ?_) (fun e3 => plain 0 a4 a5 a6 ?_))
   ·have e2 := eq_of_beq e2
    exact Tot.f (by rw [beq_eq_false_iff_ne]; omega) (plain 1 a4 a5 a6 (by intro _; simp [Gq, e2]))
   ·have e3 := eq_of_beq e3
    intro _
    simp [Gq, e3]
   ·have e2 := ne_of_beq_false e2
    have e3 := ne_of_beq_false e3
    intro _
    simp [Gq, e2, e3]
theorem Aef (op : Int) (subs tests : LL) (hok : POk 16 op subs tests) (hc : pc 16 subs ≤ 64) : Tot (fun k _ _ => (lv k).C2 op subs tests) (fun r => r = ((mk 16 op subs tests 0 0).n, (mk 16 op subs tests 0 0).s, (mk 16 op subs tests 0 0).e, (mk 16 op subs tests 0 0).E, (mk 16 op subs tests 0 0).T.map nf)) := by
 refine C2_up _ _ _ (Tot.congr ?_ (fun _ _ _ => C2_q ..))
 refine Tot.bind (Aee 16 op subs tests 0 0 0 [] [] hok (by omega) (by omega) (by simp; omega) (by simp; omega)) fun x hx => Tot.ret ?_
 subst hx
 simp
def row3 (x : List C) : List C := [C.int .i64 (gi x 0), C.row 25 (gr x 1), C.row 66 (gr x 2)]
def inn : Nat → Bool → List C → LL
 | 0, _, _ => []
 | d + 1, true, a => (gr a 1).flatMap (inn d true) ++ (gr a 2).flatMap (inn d false)
 | d + 1, false, a => (gr a 4).flatMap (inn d false) ++ (gr a 5).flatMap (fun x => inn d true x ++ [row3 x])
structure Cb (x : List C) : Prop where
 ok : ok 16 true x
 sz : ∀ e, sz e true x ≤ 64
 sm : SmR BB x
theorem Wr {n : Int} (h : 0 ≤ n) (h' : n ≤ 1000000) : (Lit.int .i64 n).wf = true := by
 simp only [Lit.wf, Bool.and_eq_true, decide_eq_true_eq]
 have h1 : IntKind.i64.min = -9223372036854775808 := rfl
 have h2 : IntKind.i64.max = 9223372036854775807 := rfl
 omega
theorem Afs {x : List C} (hs : SmR BB x) (h0 : 1 ≤ gi x 0) (h1 : gi x 0 ≤ 7) : SmR BB (row3 x) := by
 intro c hc
 simp only [row3, List.mem_cons, List.not_mem_nil, or_false] at hc
 rcases hc with rfl | rfl | rfl
 ·exact .int _ _ (Wr (by omega) (by omega))
 ·exact .row _ _ (hs.gr 1).1 (hs.gr 1).2
 ·exact .row _ _ (hs.gr 2).1 (hs.gr 2).2
theorem Cb.row3 {x : List C} (h : Cb x) : Cb (row3 x) := ⟨h.ok, fun e => by
 cases e with
 | zero => exact h.sz 0
 | succ e => exact h.sz (e + 1), Afs h.sm h.ok.1 h.ok.2.1⟩
theorem Cb.pok {x : List C} (h : Cb x) : POk 16 (gi x 0) (gr x 1) (gr x 2) := Ac7 h.ok
theorem Cb.pc {x : List C} (h : Cb x) : pc 16 (gr x 1) ≤ 64 := Nat.le_trans (Ads 16 x) (h.sz 16)
theorem Ac4 : ∀ {d : Nat} {k : Bool} {a : List C}, ok d k a → ok (d + 1) k a := by
 intro d
 induction d with
 | zero => intro k a h; exact h.elim
 | succ d ih =>
  intro k a h
  cases k with
  | true =>
   obtain ⟨h1, h2, h3, h4, h5, h6, h7, h8, h9, h10⟩ := h
   exact ⟨h1, h2, h3, h4, h5, h6, h7, h8, fun i hi => ih (h9 i hi), fun i hi => ih (h10 i hi)⟩
  | false =>
   obtain ⟨h1, h2, h3, h4, h5, h6, h7, h8, h9, h10⟩ := h
   exact ⟨h1, h2, h3, h4, h5, h6, h7, h8, fun i hi => ih (h9 i hi), fun i hi => ih (h10 i hi)⟩
theorem Px {d e : Nat} (h : d ≤ e) {k : Bool} {a : List C} (ha : ok d k a) : ok e k a := by
 induction h with
 | refl => exact ha
 | step _ ih => exact Ac4 ih
theorem Nh {l : LL} {f g : List C → LL} (h : ∀ i, i < l.length → f (l.getD i []) = g (l.getD i [])) : l.flatMap f = l.flatMap g := by
 induction l with
 | nil => rfl
 | cons x l ih =>
  rw [List.flatMap_cons, List.flatMap_cons, show f x = g x from h 0 (by simp), ih fun i hi => h (i + 1) (by simp; omega)]
theorem Aa1 : ∀ {d : Nat} {k : Bool} {a : List C}, ok d k a → inn (d + 1) k a = inn d k a := by
 intro d
 induction d with
 | zero => intro k a h; exact h.elim
 | succ d ih =>
  intro k a h
  cases k with
  | true =>
   obtain ⟨_, _, _, _, _, _, _, _, h9, h10⟩ := h
   show (gr a 1).flatMap (inn (d + 1) true) ++ (gr a 2).flatMap (inn (d + 1) false) = _
   rw [Nh (f := inn (d + 1) true) (g := inn d true) fun i hi => ih (h9 i hi), Nh (f := inn (d + 1) false) (g := inn d false) fun i hi => ih (h10 i hi)]
   rfl
  | false =>
   obtain ⟨_, _, _, _, _, _, _, _, h9, h10⟩ := h
   show (gr a 4).flatMap (inn (d + 1) false) ++ (gr a 5).flatMap (fun x => inn (d + 1) true x ++ [row3 x]) = _
   rw [Nh (f := inn (d + 1) false) (g := inn d false) fun i hi => ih (h9 i hi), Nh (f := fun x => inn (d + 1) true x ++ [row3 x]) (g := fun x => inn d true x ++ [row3 x]) fun i hi => by rw [ih (h10 i hi)]]
   rfl
theorem Tn {d e : Nat} (h : d ≤ e) {k : Bool} {a : List C} (ha : ok d k a) : inn e k a = inn d k a := by
 induction h with
 | refl => rfl
 | step h ih => rw [Aa1 (Px h ha), ih]
theorem Hm {l : LL} {f : List C → Nat} {i : Nat} (hi : i < l.length) : f (l.getD i []) ≤ (l.map f).sum := by
 induction l generalizing i with
 | nil => simp at hi
 | cons x l ih =>
  cases i with
  | zero => simp
  | succ i => have := ih (i := i) (by simpa using hi); simp at this ⊢; omega
theorem Aa0 : ∀ {d : Nat}, d ≤ 16 → ∀ {k : Bool} {a : List C}, ok d k a → (∀ e, sz e k a ≤ 64) → SmR BB a → ∀ x, x ∈ inn d k a → Cb x := by
 intro d
 induction d with
 | zero => intro _ k a h; exact h.elim
 | succ d ih =>
  intro hd k a h hz hs x hx
  have ih := @ih (by omega)
  have sub : ∀ (j : Nat) (k' : Bool) (g : Nat → Nat), (∀ e, sz (e + 1) k a = 1 + ((gr a (g 1)).map (sz e (if g 1 = j then k' else !k'))).sum + ((gr a (g 2)).map (sz e (if g 1 = j then !k' else k'))).sum) → (j = g 1 ∨ j = g 2 ∧ g 1 ≠ j) → ∀ i, i < (gr a j).length → ∀ e, sz e k' ((gr a j).getD i []) ≤ 64 := by
   intro j k' g hg hj i hi e
   have h1 := hz (e + 1)
   rw [hg e] at h1
   have h2 := Hm (f := sz e k') hi
   rcases hj with rfl | ⟨rfl, hj⟩
   ·rw [if_pos rfl, if_pos rfl] at h1; omega
   ·rw [if_neg hj, if_neg hj] at h1; omega
  cases k with
  | true =>
   obtain ⟨_, _, _, _, _, _, _, _, h9, h10⟩ := h
   rcases List.mem_append.1 hx with hx | hx
   ·obtain ⟨y, hy, hxy⟩ := List.mem_flatMap.1 hx
    obtain ⟨i, hi, rfl⟩ := Fe hy
    exact ih (h9 i hi) (sub 1 true id (fun e => rfl) (.inl rfl) i hi) ((hs.gr 1).get i) x hxy
   ·obtain ⟨y, hy, hxy⟩ := List.mem_flatMap.1 hx
    obtain ⟨i, hi, rfl⟩ := Fe hy
    exact ih (h10 i hi) (sub 2 false id (fun e => rfl) (.inr ⟨rfl, by decide⟩) i hi) ((hs.gr 2).get i) x hxy
  | false =>
   obtain ⟨_, _, _, _, _, _, _, _, h9, h10⟩ := h
   rcases List.mem_append.1 hx with hx | hx
   ·obtain ⟨y, hy, hxy⟩ := List.mem_flatMap.1 hx
    obtain ⟨i, hi, rfl⟩ := Fe hy
    exact ih (h9 i hi) (sub 4 false (· + 3) (fun e => rfl) (.inl rfl) i hi) ((hs.gr 4).get i) x hxy
   ·obtain ⟨y, hy, hxy⟩ := List.mem_flatMap.1 hx
    obtain ⟨i, hi, rfl⟩ := Fe hy
    have hz5 := sub 5 true (· + 3) (fun e => rfl) (.inr ⟨rfl, by decide⟩) i hi
    rcases List.mem_append.1 hxy with hxy | hxy
    ·exact ih (h10 i hi) hz5 ((hs.gr 5).get i) x hxy
    ·rw [List.mem_singleton.1 hxy]
     exact Cb.row3 ⟨Px (by omega) (h10 i hi), hz5, (hs.gr 5).get i⟩
theorem Np {l : LL} {f : List C → LL} {g : List C → Nat} (h : ∀ x, x ∈ l → (f x).length ≤ g x) : (l.flatMap f).length ≤ (l.map g).sum := by
 induction l with
 | nil => simp
 | cons x l ih =>
  rw [List.flatMap_cons, List.length_append, List.map_cons, List.sum_cons]
  have h1 := h x List.mem_cons_self
  have h2 := ih fun y hy => h y (List.mem_cons_of_mem _ hy)
  omega
theorem To : ∀ (d : Nat) (k : Bool) (a : List C), (inn d k a).length + 1 ≤ sz d k a := by
 intro d
 induction d with
 | zero => intro k a; cases k <;> exact Nat.le_refl _
 | succ d ih =>
  intro k a
  cases k with
  | true =>
   have h1 := Np (l := gr a 1) (f := inn d true) (g := sz d true) fun x _ => by have := ih true x; omega
   have h2 := Np (l := gr a 2) (f := inn d false) (g := sz d false) fun x _ => by have := ih false x; omega
   simp only [inn, List.length_append, sz]
   omega
  | false =>
   have h1 := Np (l := gr a 4) (f := inn d false) (g := sz d false) fun x _ => by have := ih false x; omega
   have h2 := Np (l := gr a 5) (f := fun x => inn d true x ++ [row3 x]) (g := sz d true) fun x _ => by have := ih true x; simp; omega
   simp only [inn, List.length_append, sz]
   omega
open Classical in
noncomputable def E8 (D : LL) (x : List C) : LL := if ∃ z, z ∈ D ∧ Bq true z x then D else D ++ [row3 x]
theorem Qw {D : LL} {x : List C} (h : ∃ z, z ∈ D ∧ Bq true z x) : E8 D x = D := by unfold E8; rw [if_pos h]
theorem Ok {D : LL} {x : List C} (h : ¬ ∃ z, z ∈ D ∧ Bq true z x) : E8 D x = D ++ [row3 x] := by unfold E8; rw [if_neg h]
theorem al3 (x : List C) : Bq true (row3 x) x := .path rfl rfl rfl (fun i _ => Bq.refl _ _) (fun i _ => Bq.refl _ _)
def Cl (l : LL) : Prop := ∀ i, i < l.length → ∀ y, y ∈ inn 16 true (l.getD i []) → y ∈ l.take i
theorem H0 {l m : LL} {i : Nat} : (l ++ m).getD i [] = if i < l.length then l.getD i [] else m.getD (i - l.length) [] := by
 rw [List.getD_eq_getElem?_getD, List.getElem?_append]
 split
 ·rw [List.getD_eq_getElem?_getD]
 ·rw [List.getD_eq_getElem?_getD]
theorem Cl.app {l m : LL} (hl : Cl l) (hm : Cl m) : Cl (l ++ m) := by
 intro i hi y hy
 rw [H0] at hy
 rw [List.take_append]
 split at hy
 ·rename_i h
  exact List.mem_append_left _ (hl i h y hy)
 ·rename_i h
  rw [List.length_append] at hi
  exact List.mem_append_right _ (hm _ (by omega) y hy)
theorem Cl.flat {l : LL} {f : List C → LL} (h : ∀ i, i < l.length → Cl (f (l.getD i []))) : Cl (l.flatMap f) := by
 induction l with
 | nil => intro i hi; simp at hi
 | cons x l ih =>
  rw [List.flatMap_cons]
  exact Cl.app (h 0 (by simp)) (ih fun i hi => h (i + 1) (by simp; omega))
theorem Tm : ∀ {d : Nat}, d ≤ 16 → ∀ {k : Bool} {a : List C}, ok d k a → Cl (inn d k a) := by
 intro d
 induction d with
 | zero => intro _ k a h; exact h.elim
 | succ d ih =>
  intro hd k a h
  have ih := @ih (by omega)
  cases k with
  | true =>
   obtain ⟨_, _, _, _, _, _, _, _, h9, h10⟩ := h
   exact Cl.app (Cl.flat fun i hi => ih (h9 i hi)) (Cl.flat fun i hi => ih (h10 i hi))
  | false =>
   obtain ⟨_, _, _, _, _, _, _, _, h9, h10⟩ := h
   refine Cl.app (Cl.flat fun i hi => ih (h9 i hi)) (Cl.flat fun i hi => ?_)
   intro j hj y hy
   rw [List.length_append, List.length_singleton] at hj
   rw [H0] at hy
   split at hy
   ·rename_i hlt
    rw [List.take_append_of_le_length (by omega)]
    exact ih (h10 i hi) j hlt y hy
   ·rename_i hge
    have e : j = (inn d true ((gr a 5).getD i [])).length := by omega
    rw [show j - (inn d true ((gr a 5).getD i [])).length = 0 by omega] at hy
    have hy : y ∈ inn 16 true ((gr a 5).getD i []) := hy
    rw [Tn (show d ≤ 16 by omega) (h10 i hi)] at hy
    rw [List.take_append_of_le_length (by omega), e, List.take_length]
    exact hy
structure Ded (l D : LL) : Prop where
 al : ∀ y, y ∈ l → ∃ z, z ∈ D ∧ Bq true z y
 dif : ∀ i j, i < j → j < D.length → ¬ Bq true (D.getD i []) (D.getD j [])
 ahead : ∀ i, i < D.length → ∀ y, y ∈ inn 16 true (D.getD i []) → ∃ n, n < i ∧ Bq true (D.getD n []) y
 len : D.length ≤ l.length
 good : ∀ x, x ∈ D → Cb x
theorem Sg {l : LL} (hl : Cl l) (hg : ∀ x, x ∈ l → Cb x) : ∀ n, n ≤ l.length → Ded (l.take n) ((l.take n).foldl E8 []) := by
 intro n
 induction n with
 | zero => intro _; exact ⟨fun y h => (by cases h), fun i j h h' => (by cases h'), fun i h => (by cases h), Nat.le_refl _, fun x h => (by cases h)⟩
 | succ n ih =>
  intro hn
  have D := ih (by omega)
  have e : l.take (n + 1) = l.take n ++ [l.getD n []] := by
   rw [List.take_add_one, List.getElem?_eq_getElem (by omega), List.getD_eq_getElem?_getD, List.getElem?_eq_getElem (by omega)]
   rfl
  rw [e, List.foldl_append]
  show Ded _ (E8 ((l.take n).foldl E8 []) (l.getD n []))
  generalize (l.take n).foldl E8 [] = d at D
  by_cases hx : ∃ z, z ∈ d ∧ Bq true z (l.getD n [])
  ·rw [Qw hx]
   refine ⟨fun y hy => ?_, D.dif, D.ahead, by have := D.len; rw [List.length_append]; omega, D.good⟩
   rcases List.mem_append.1 hy with hy | hy
   ·exact D.al y hy
   ·rw [List.mem_singleton.1 hy]; exact hx
  ·rw [Ok hx]
   have hlen : (d ++ [row3 (l.getD n [])]).length = d.length + 1 := by simp
   have hmem : l.getD n [] ∈ l := Eb (by omega)
   refine ⟨fun y hy => ?_, fun i j hij hj => ?_, fun i hi y hy => ?_, by have := D.len; rw [hlen, List.length_append]; simp only [List.length_singleton]; omega, fun x hx2 => ?_⟩
   ·rcases List.mem_append.1 hy with hy | hy
    ·obtain ⟨z, h1, h2⟩ := D.al y hy
     exact ⟨z, List.mem_append_left _ h1, h2⟩
    ·rw [List.mem_singleton.1 hy]
     exact ⟨_, List.mem_append_right _ (List.mem_singleton.2 rfl), al3 _⟩
   ·rw [hlen] at hj
    rw [H0, H0, if_pos (show i < d.length by omega)]
    split
    ·rename_i h; exact D.dif i j hij h
    ·rename_i h
     rw [show j - d.length = 0 by omega]
     intro ha
     exact hx ⟨_, Eb (show i < d.length by omega), ha.trans (al3 _)⟩
   ·rw [hlen] at hi
    rw [H0] at hy
    split at hy
    ·rename_i h
     obtain ⟨m, h1, h2⟩ := D.ahead i h y hy
     exact ⟨m, h1, by rw [H0, if_pos (show m < d.length by omega)]; exact h2⟩
    ·rename_i h
     rw [show i - d.length = 0 by omega] at hy
     have hy : y ∈ inn 16 true (l.getD n []) := hy
     obtain ⟨z, h1, h2⟩ := D.al y (hl n (by omega) y hy)
     obtain ⟨m, h3, rfl⟩ := Fe h1
     exact ⟨m, by omega, by rw [H0, if_pos h3]; exact h2⟩
   ·rcases List.mem_append.1 hx2 with h | h
    ·exact D.good x h
    ·rw [List.mem_singleton.1 h]; exact (hg _ hmem).row3
theorem Y3 {l : LL} (hl : Cl l) (hg : ∀ x, x ∈ l → Cb x) : Ded l (l.foldl E8 []) := by
 have := Sg hl hg l.length (Nat.le_refl _)
 rwa [List.take_length] at this
theorem Gy {l : LL} {f : List C → LL} {i : Nat} (h : i < l.length) : (l.take (i + 1)).flatMap f = (l.take i).flatMap f ++ f (l.getD i []) := by
 rw [List.take_add_one, List.getElem?_eq_getElem h, List.getD_eq_getElem?_getD, List.getElem?_eq_getElem h, List.flatMap_append]
 simp
theorem Gw : Try.prog.bytesOf 25 ≤ 1024 := of_decide_eq_true (by kernel_rfl)
theorem Yl : Try.prog.bytesOf 39 ≤ 1024 := of_decide_eq_true (by kernel_rfl)
theorem Tb {D : LL} (h : ∀ x, x ∈ D → Cb x) (i : Nat) : SmR BB (D.getD i []) := by
 rw [List.getD_eq_getElem?_getD]
 cases hi : D[i]? with
 | none => intro x hx; cases hx
 | some r => exact (h r (List.mem_of_getElem? hi)).sm
theorem Aaj {l : LL} {z : List C} : (l ++ [z]).getD l.length [] = z := by
 rw [H0, if_neg (Nat.lt_irrefl _), Nat.sub_self]
 rfl
theorem Agd {l : LL} {f : List C → LL} {i : Nat} : ((l.take i).flatMap f).length ≤ (l.flatMap f).length := by
 have := List.take_append_drop i l
 have h : (l.flatMap f).length = ((l.take i).flatMap f).length + ((l.drop i).flatMap f).length := by
  rw [← List.length_append, ← List.flatMap_append, this]
 omega
theorem Lb {l : LL} {f : List C → LL} {i : Nat} (hi : i < l.length) : ((l.take i).flatMap f).length + (f (l.getD i [])).length ≤ (l.flatMap f).length := by
 have := Agd (l := l) (f := f) (i := i + 1)
 rw [Gy hi, List.length_append] at this
 exact this
theorem Gt {a : List C} {k : Bool} (hz : ∀ e, sz e k a ≤ 64) (j : Nat) (k' : Bool) (hj : (k, j, k') = (true, 1, true) ∨ (k, j, k') = (true, 2, false) ∨ (k, j, k') = (false, 4, false) ∨ (k, j, k') = (false, 5, true)) {i : Nat} (hi : i < (gr a j).length) : ∀ e, sz e k' ((gr a j).getD i []) ≤ 64 := by
 intro e
 have h1 := hz (e + 1)
 have h2 := Hm (f := sz e k') hi
 rcases hj with hj | hj | hj | hj <;> cases hj <;> simp only [sz] at h1 <;> omega
theorem X5 (m : Nat) : (lv (m + 40)).Dt = some true := by kernel_rfl
theorem Ri : Tot (fun n _ _ => (lv n).Dt) (fun r => r = true) := ⟨true, rfl, 40, fun n a b hn _ _ => by
 obtain ⟨m, rfl⟩ : ∃ m, n = m + 40 := ⟨n - 40, by omega⟩
 exact X5 m⟩
noncomputable def A4 (x : List C) : Mk := mk 16 (gi x 0) (gr x 1) (gr x 2) 0 0
noncomputable def nst (x : List C) : Int := (A4 x).n
noncomputable def C7 (x : List C) : List C := [C.int .i64 (A4 x).n, C.int .i64 (A4 x).s, C.int .i64 (A4 x).e, C.row 83 (A4 x).E, C.row 66 ((A4 x).T.map nf)]
noncomputable def Be : LL → Int
 | [] => 0
 | x :: l => nst x + Be l
noncomputable def Ct : Int → LL → LL
 | _, [] => []
 | s, x :: l => [C.int .i64 s] :: Ct (s + nst x) l
theorem I8 (l m : LL) : Be (l ++ m) = Be l + Be m := by
 induction l with
 | nil => simp [Be]
 | cons x l ih => simp only [List.cons_append, Be, ih]; omega
theorem Ye (l m : LL) : ∀ s, Ct s (l ++ m) = Ct s l ++ Ct (s + Be l) m := by
 induction l with
 | nil => intro s; simp [Ct, Be]
 | cons x l ih => intro s; simp only [List.cons_append, Ct, Be, ih]; rw [show s + nst x + Be l = s + (nst x + Be l) by omega]
theorem M3 (l : LL) : ∀ s, (Ct s l).length = l.length := by
 induction l with
 | nil => intro s; rfl
 | cons x l ih => intro s; simp [Ct, ih]
theorem M2 (l : LL) : ∀ (s : Int) (i : Nat), i < l.length → (Ct s l).getD i [] = [C.int .i64 (s + Be (l.take i))] := by
 induction l with
 | nil => intro s i h; simp at h
 | cons x l ih =>
  intro s i h
  cases i with
  | zero => simp [Ct, Be]
  | succ i =>
   have := ih (s + nst x) i (by simpa using h)
   simp only [Ct, List.getD_cons_succ, List.take_succ_cons, Be]
   rw [this, show s + nst x + Be (l.take i) = s + (nst x + Be (l.take i)) by omega]
theorem Cb.nst {x : List C} (h : Cb x) : 0 ≤ nst x ∧ nst x ≤ 128 := by
 have h1 := Iy 16 _ _ _ 0 0 h.pok
 have h2 := h.pc
 have h3 := h1.lo
 have h4 := h1.hi
 unfold Go.Vm.T.nst A4
 omega
theorem F7 {l : LL} (h : ∀ x, x ∈ l → Cb x) : 0 ≤ Be l ∧ Be l ≤ 128 * l.length := by
 induction l with
 | nil => simp [Be]
 | cons x l ih =>
  have h1 := (h x List.mem_cons_self).nst
  have h2 := ih fun y hy => h y (List.mem_cons_of_mem _ hy)
  simp only [Be, List.length_cons]
  omega
theorem G7 {l : LL} {i : Nat} (h : i < l.length) : l.take (i + 1) = l.take i ++ [l.getD i []] := by
 rw [List.take_add_one, List.getElem?_eq_getElem h, List.getD_eq_getElem?_getD, List.getElem?_eq_getElem h]
 rfl
theorem Ix {l : LL} (h : ∀ x, x ∈ l → Cb x) (i : Nat) : ∀ x, x ∈ l.take i → Cb x := fun x hx => h x (List.mem_of_mem_take hx)
noncomputable def DD (p : List C) : LL := (inn 16 true p).foldl E8 []
theorem Cb.inn {p : List C} (h : Cb p) : ∀ x, x ∈ inn 16 true p → Cb x := Aa0 (by omega) h.ok h.sz h.sm
theorem Cb.len {p : List C} (h : Cb p) : (Go.Vm.T.inn 16 true p).length ≤ 63 := by
 have := To 16 true p
 have := h.sz 16
 omega
theorem Cb.ded {p : List C} (h : Cb p) : Ded (Go.Vm.T.inn 16 true p) (DD p) := Y3 (Tm (by omega) h.ok) h.inn
theorem P0 {x : List C} (h : Cb x) : Tot (fun k _ _ => (lv k).C2 (gi x 0) (gr x 1) (gr x 2)) (fun r => r = ((A4 x).n, (A4 x).s, (A4 x).e, (A4 x).E, (A4 x).T.map nf)) := Aef _ _ _ h.pok h.pc
theorem P1 (D B C' : LL) (n s e : Int) (E T : LL) (x : List C) (hD : ∀ y, y ∈ D → Cb y) (hl : D.length ≤ 1000000) (hx : SmR BB x) : Tot (fun k _ _ => (lv k).B3 D B C' n s e E T (gi x 0) (gr x 1) (gr x 2)) (Fst D.length (fun j => Bq true (D.getD j []) x)) := by
 refine B3_up _ _ _ _ _ _ _ _ _ _ _ (Tot.congr ?_ (fun _ _ _ => B3_q ..))
 refine Tot.in0 (Tot.first (H := fun k p q v => B3_l0 (lv k) k D B C' n s e E T (gi x 0) (gr x 1) (gr x 2) p v) (n := D.length) (by omega) ?_ (fun i Q hi hy hn => ?_))
 ·refine Tot.step0 (fun _ _ _ => B3_l0_q ..) ?_
  exact Tot.f (decide_eq_false (by omega)) (Tot.ret rfl)
 ·refine Tot.step0 (fun _ _ _ => B3_l0_q ..) ?_
  rw [Int.toNat_natCast]
  repeat (refine Tot.t (decide_eq_true (by omega)) ?_)
  exact Tot.bind (Ae3 (D.getD i []) x (Tb hD i) hx) fun r hr => Tot.cond (fun h => Tot.ret (hy (hr.1 h))) (fun h => hn (fun ha => by rw [hr.2 ha] at h; cases h))
theorem Adt (D B C' : LL) (n s e : Int) (E T : LL) (x : List C) (hD : ∀ y, y ∈ D → Cb y) (hl : D.length ≤ 1000000) (hx : SmR BB x) : Tot (fun k _ _ => (lv k).Dm D B C' n s e E T (gi x 0) (gr x 1) (gr x 2)) (Fst D.length (fun j => Bq true (D.getD j []) x)) := by
 refine Dm_up _ _ _ _ _ _ _ _ _ _ _ (Tot.congr ?_ (fun _ _ _ => Dm_q ..))
 refine Tot.bind (R := Fst D.length (fun j => Bq true (D.getD j []) x)) ?_ fun r hr => Tot.ret hr
 refine Cj_up _ _ _ _ (Tot.congr ?_ (fun _ _ _ => Cj_q ..))
 refine Tot.in0 (Tot.first (H := fun k p q v => Cj_l0 (lv k) k D (gi x 0) (gr x 1) (gr x 2) p v) (n := D.length) (by omega) ?_ (fun i Q hi hy hn => ?_))
 ·refine Tot.step0 (fun _ _ _ => Cj_l0_q ..) ?_
  exact Tot.f (decide_eq_false (by omega)) (Tot.ret rfl)
 ·refine Tot.step0 (fun _ _ _ => Cj_l0_q ..) ?_
  rw [Int.toNat_natCast]
  repeat (refine Tot.t (decide_eq_true (by omega)) ?_)
  refine Tot.bind (R := AlQ true (D.getD i []) x) ?_ fun r hr => Tot.cond (fun h => Tot.ret (hy (hr.1 h))) (fun h => hn (fun ha => by rw [hr.2 ha] at h; cases h))
  refine Dv_up _ _ _ _ _ _ (Tot.congr ?_ (fun _ _ _ => Dv_q ..))
  exact Tot.bind (Adz (D.getD i []) x (Tb hD i) hx) fun r hr => Tot.ret hr
def RI (k : Bool) (a : List C) (d : Nat) : Prop := match k with
 | true => Tot (fun k _ _ => (lv k).Ar (gi a 0) (gr a 1) (gr a 2)) (fun r => r = inn d true a)
 | false => Tot (fun k _ _ => (lv k).Bh (gi a 0) (gs a 1) (gs a 2) (gs a 3) (gr a 4) (gr a 5)) (fun r => r = inn d false a)
theorem Aev : ∀ d, d ≤ 16 → ∀ (k : Bool) (a : List C), ok d k a → (∀ e, sz e k a ≤ 64) → SmR BB a → RI k a d := by
 intro d
 induction d with
 | zero => intro _ k a h; exact h.elim
 | succ d ih =>
  intro hd k a ha hz hs
  have ih := @ih (by omega)
  have hlen := To (d + 1) k a
  have hz' := hz (d + 1)
  have ha' := ha
  cases k with
  | true =>
   obtain ⟨_, _, _, _, _, _, _, _, h9, h10⟩ := ha'
   have e0 : inn (d + 1) true a = (gr a 1).flatMap (inn d true) ++ (gr a 2).flatMap (inn d false) := rfl
   show Tot _ _
   rw [e0] at hlen ⊢
   rw [List.length_append] at hlen
   have hl1 : (gr a 1).length ≤ 1048576 := (hs.gr 1).1
   have hl2 : (gr a 2).length ≤ 1048576 := (hs.gr 2).1
   refine Ar_up _ _ _ (Tot.congr ?_ (fun _ _ _ => Ar_q ..))
   have l3 : ∀ (i : Nat) s, i ≤ (gr a 2).length → s = (gr a 1).flatMap (inn d true) ++ ((gr a 2).take i).flatMap (inn d false) → Tot (fun k p q => Ar_l3 (lv k) k (gi a 0) (gr a 1) (gr a 2) p (i : Int) s) (fun r => r = (gr a 1).flatMap (inn d true) ++ (gr a 2).flatMap (inn d false)) := fun i s hi hs' =>
    Tot.loop (H := fun k p q v s => Ar_l3 (lv k) k (gi a 0) (gr a 1) (gr a 2) p v s) (n := (gr a 2).length) (fun i s => s = (gr a 1).flatMap (inn d true) ++ ((gr a 2).take i).flatMap (inn d false)) (by omega) (fun s hs' => by
     subst hs'
     refine Tot.step0 (fun _ _ _ => Ar_l3_q ..) ?_
     rw [List.take_length]
     exact Tot.f (decide_eq_false (by omega)) (Tot.ret rfl)) (fun i s hi hs' next => by
     subst hs'
     refine Tot.step0 (fun _ _ _ => Ar_l3_q ..) ?_
     rw [Int.toNat_natCast]
     repeat (refine Tot.t (decide_eq_true (by omega)) ?_)
     have q3 := Lb (f := inn d false) hi
     refine Tot.bind (ih false _ (h10 i hi) (Gt hz 2 false (by simp) hi) ((hs.gr 2).get i)) fun r hr => ?_
     subst hr
     exact Tot.t (D5 Gw (by rw [List.length_append]; omega)) (next _ (by rw [Gy hi, List.append_assoc]))) _ i s rfl hi hs'
   have l2 : ∀ (i : Nat) s, i ≤ (gr a 1).length → s = ((gr a 1).take i).flatMap (inn d true) → Tot (fun k p q => Ar_l2 (lv k) k (gi a 0) (gr a 1) (gr a 2) p (i : Int) s) (fun r => r = (gr a 1).flatMap (inn d true) ++ (gr a 2).flatMap (inn d false)) := fun i s hi hs' =>
    Tot.loop (H := fun k p q v s => Ar_l2 (lv k) k (gi a 0) (gr a 1) (gr a 2) p v s) (n := (gr a 1).length) (fun i s => s = ((gr a 1).take i).flatMap (inn d true)) (by omega) (fun s hs' => by
     subst hs'
     refine Tot.step0 (fun _ _ _ => Ar_l2_q ..) ?_
     rw [List.take_length]
     exact Tot.f (decide_eq_false (by omega)) (Tot.in0 (l3 0 _ (by omega) (by simp)))) (fun i s hi hs' next => by
     subst hs'
     refine Tot.step0 (fun _ _ _ => Ar_l2_q ..) ?_
     rw [Int.toNat_natCast]
     repeat (refine Tot.t (decide_eq_true (by omega)) ?_)
     have q3 := Lb (f := inn d true) hi
     refine Tot.bind (ih true _ (h9 i hi) (Gt hz 1 true (by simp) hi) ((hs.gr 1).get i)) fun r hr => ?_
     subst hr
     exact Tot.t (D5 Gw (by omega)) (next _ (by rw [Gy hi]))) _ i s rfl hi hs'
   refine Tot.in0 (g := fun k p_ q_ => Ar_l0 (lv k) k (gi a 0) (gr a 1) (gr a 2) p_ ) ?_
   refine Tot.step0 (fun _ _ _ => Ar_l0_q ..) ?_
   refine Tot.cond (fun h0 => ?_) (fun h0 => ?_)
   ·have h0 := of_decide_eq_true h0
    refine Tot.t (decide_eq_true (by omega)) (Tot.bind (ih true _ (h9 0 (by omega)) (Gt hz 1 true (by simp) (show 0 < (gr a 1).length by omega)) ((hs.gr 1).get 0)) fun r hr => ?_)
    subst hr
    have q3 := Lb (f := inn d true) (show 0 < (gr a 1).length by omega)
    refine Tot.t (D5 Gw (by omega)) (l2 1 _ (by omega) ?_)
    rw [Gy (show 0 < (gr a 1).length by omega)]
    simp
   ·have h0 := of_decide_eq_false h0
    have e1 : gr a 1 = [] := List.length_eq_zero_iff.1 (by omega)
    refine Tot.in0 (g := fun k p_ q_ => Ar_l1 (lv k) k (gi a 0) (gr a 1) (gr a 2) p_ ) ?_
    refine Tot.step0 (fun _ _ _ => Ar_l1_q ..) ?_
    refine Tot.cond (fun h0 => ?_) (fun h0 => ?_)
    ·have h0 := of_decide_eq_true h0
     refine Tot.t (decide_eq_true (by omega)) (Tot.bind (ih false _ (h10 0 (by omega)) (Gt hz 2 false (by simp) (show 0 < (gr a 2).length by omega)) ((hs.gr 2).get 0)) fun r hr => ?_)
     subst hr
     have q3 := Lb (f := inn d false) (show 0 < (gr a 2).length by omega)
     refine Tot.t (D5 Gw (by omega)) (l3 1 _ (by omega) ?_)
     rw [Gy (show 0 < (gr a 2).length by omega)]
     simp [e1]
    ·have h0 := of_decide_eq_false h0
     have e2 : gr a 2 = [] := List.length_eq_zero_iff.1 (by omega)
     exact Tot.ret (by simp [e1, e2])
  | false =>
   obtain ⟨_, _, _, _, _, _, h7, h8, h9, h10⟩ := ha'
   have e0 : inn (d + 1) false a = (gr a 4).flatMap (inn d false) ++ (gr a 5).flatMap (fun x => inn d true x ++ [row3 x]) := rfl
   show Tot _ _
   rw [e0] at hlen ⊢
   rw [List.length_append] at hlen
   have hl1 : (gr a 4).length ≤ 1048576 := (hs.gr 4).1
   have hl2 : (gr a 5).length ≤ 1048576 := (hs.gr 5).1
   have e5 : ∀ h : 0 < (gr a 5).length, (gr a 5).flatMap (fun x => inn d true x ++ [row3 x]) = inn d true ((gr a 5).getD 0 []) ++ [row3 ((gr a 5).getD 0 [])] := fun h => by
    have := Gy (f := fun x => inn d true x ++ [row3 x]) h
    rw [List.take_of_length_le (by omega)] at this
    simpa using this
   refine Bh_up _ _ _ _ _ _ (Tot.congr ?_ (fun _ _ _ => Bh_q ..))
   have l1 : ∀ (i : Nat) s, i ≤ (gr a 4).length → s = ((gr a 4).take i).flatMap (inn d false) → Tot (fun k p q => Bh_l1 (lv k) k (gi a 0) (gs a 1) (gs a 2) (gs a 3) (gr a 4) (gr a 5) p (i : Int) s) (fun r => r = (gr a 4).flatMap (inn d false) ++ (gr a 5).flatMap (fun x => inn d true x ++ [row3 x])) := fun i s hi hs' =>
    Tot.loop (H := fun k p q v s => Bh_l1 (lv k) k (gi a 0) (gs a 1) (gs a 2) (gs a 3) (gr a 4) (gr a 5) p v s) (n := (gr a 4).length) (fun i s => s = ((gr a 4).take i).flatMap (inn d false)) (by omega) (fun s hs' => by
     subst hs'
     refine Tot.step0 (fun _ _ _ => Bh_l1_q ..) ?_
     rw [List.take_length]
     refine Tot.f (decide_eq_false (by omega)) (Tot.cond (fun h11 => ?_) (fun h11 => Tot.ret ?_))
     ·have h11 := h7.1 (eq_of_beq h11)
      have h05 : 0 < (gr a 5).length := by omega
      rw [e5 h05] at hlen ⊢
      rw [List.length_append, List.length_singleton] at hlen
      refine Tot.t (decide_eq_true (by omega)) (Tot.bind (ih true _ (h10 0 h05) (Gt hz 5 true (by simp) h05) ((hs.gr 5).get 0)) fun r hr => ?_)
      subst hr
      refine Tot.t (D5 Gw (by omega)) (Tot.t (decide_eq_true (by omega)) (Tot.t (D5 Gw (by rw [List.length_append]; omega)) (Tot.ret ?_)))
      rw [List.append_assoc]
      rfl
     ·have h11 : gi a 0 ≠ 11 := by simpa using h11
      have e2 : gr a 5 = [] := List.length_eq_zero_iff.1 (by
       rcases Nat.lt_or_ge 0 (gr a 5).length with h | h
       ·exact absurd (h7.2 (by omega)) h11
       ·omega)
      simp [e2]) (fun i s hi hs' next => by
     subst hs'
     refine Tot.step0 (fun _ _ _ => Bh_l1_q ..) ?_
     rw [Int.toNat_natCast]
     repeat (refine Tot.t (decide_eq_true (by omega)) ?_)
     have q3 := Lb (f := inn d false) hi
     refine Tot.bind (ih false _ (h9 i hi) (Gt hz 4 false (by simp) hi) ((hs.gr 4).get i)) fun r hr => ?_
     subst hr
     exact Tot.t (D5 Gw (by omega)) (next _ (by rw [Gy hi]))) _ i s rfl hi hs'
   refine Tot.in0 (g := fun k p_ q_ => Bh_l0 (lv k) k (gi a 0) (gs a 1) (gs a 2) (gs a 3) (gr a 4) (gr a 5) p_ ) ?_
   refine Tot.step0 (fun _ _ _ => Bh_l0_q ..) ?_
   refine Tot.cond (fun h0 => ?_) (fun h0 => ?_)
   ·have h0 := of_decide_eq_true h0
    refine Tot.t (decide_eq_true (by omega)) (Tot.bind (ih false _ (h9 0 (by omega)) (Gt hz 4 false (by simp) (show 0 < (gr a 4).length by omega)) ((hs.gr 4).get 0)) fun r hr => ?_)
    subst hr
    have q3 := Lb (f := inn d false) (show 0 < (gr a 4).length by omega)
    refine Tot.t (D5 Gw (by omega)) (l1 1 _ (by omega) ?_)
    rw [Gy (show 0 < (gr a 4).length by omega)]
    simp
   ·have h0 := of_decide_eq_false h0
    have e1 : gr a 4 = [] := List.length_eq_zero_iff.1 (by omega)
    refine Tot.cond (fun h11 => ?_) (fun h11 => Tot.ret ?_)
    ·have h11 := h7.1 (eq_of_beq h11)
     have h05 : 0 < (gr a 5).length := by omega
     rw [e5 h05] at hlen ⊢
     rw [List.length_append, List.length_singleton] at hlen
     refine Tot.t (decide_eq_true (by omega)) (Tot.bind (ih true _ (h10 0 h05) (Gt hz 5 true (by simp) h05) ((hs.gr 5).get 0)) fun r hr => ?_)
     subst hr
     refine Tot.t (D5 Gw (by omega)) (Tot.t (decide_eq_true (by omega)) (Tot.t (D5 Gw (by omega)) (Tot.ret ?_)))
     rw [e1]
     rfl
    ·have h11 : gi a 0 ≠ 11 := by simpa using h11
     have e2 : gr a 5 = [] := List.length_eq_zero_iff.1 (by
      rcases Nat.lt_or_ge 0 (gr a 5).length with h | h
      ·exact absurd (h7.2 (by omega)) h11
      ·omega)
     simp [e1, e2]
theorem Aeu {p : List C} (h : Cb p) : Tot (fun k _ _ => (lv k).Ar (gi p 0) (gr p 1) (gr p 2)) (fun r => r = inn 16 true p) := Aev 16 (Nat.le_refl _) true p h.ok h.sz h.sm
theorem Y4 {p : List C} (h : Cb p) (i : Nat) (hi : i ≤ (inn 16 true p).length) : Ded ((inn 16 true p).take i) (((inn 16 true p).take i).foldl E8 []) := Sg (Tm (by omega) h.ok) h.inn i hi
theorem Aex {p : List C} (h : Cb p) : Tot (fun k _ _ => (lv k).Br (gi p 0) (gr p 1) (gr p 2)) (fun r => r = (DD p, (DD p).map C7, Ct 0 (DD p), (A4 p).n, (A4 p).s, (A4 p).e, (A4 p).E, (A4 p).T.map nf)) := by
 have hlen := h.len
 refine Br_up _ _ _ (Tot.congr ?_ (fun _ _ _ => Br_q ..))
 refine Tot.bind (P0 h) fun r hr => ?_
 subst hr
 refine Tot.bind (Aeu h) fun r hr => ?_
 subst hr
 refine Tot.in0 (g := fun k p_ q_ => Br_l0 (lv k) k (gi p 0) (gr p 1) (gr p 2) p_ 0 (A4 p).n (A4 p).s (A4 p).e (A4 p).E ((A4 p).T.map nf) (inn 16 true p)) ?_
 refine Tot.step0 (fun _ _ _ => Br_l0_q ..) ?_
 rw [show Int.toNat 0 = 0 from rfl, show IntKind.i64.wrap ((0 : Int) + 1) = 1 from rfl]
 refine Tot.cond (fun h0 => ?_) (fun h0 => Tot.ret ?_)
 ·have h0 := of_decide_eq_true h0
  have h0' : 0 < (inn 16 true p).length := by omega
  refine Tot.t (by rfl) (Tot.t (decide_eq_true (by omega)) ?_)
  have h1 := h.inn _ (Eb (d := []) h0')
  refine Tot.bind (P1 [] [] [] _ _ _ _ _ _ (fun y hy => by cases hy) (by simp) h1.sm) fun r hr => ?_
  have hr : r = -1 := by
   rcases hr with ⟨e, _⟩ | ⟨i, _, e, _⟩
   ·exact e
   ·simp at e
  subst hr
  refine Tot.f (by rfl) (Tot.t (by rfl) (Tot.t (decide_eq_true (by omega)) ?_))
  refine Tot.bind (P0 h1) fun r hr => ?_
  subst hr
  refine Tot.t (by rfl) (Tot.t (decide_eq_true (by omega)) ?_)
  have hn1 := h1.nst
  have e1 : ((inn 16 true p).take 1).foldl E8 [] = [row3 ((inn 16 true p).getD 0 [])] := by
   rw [G7 h0']
   show E8 [] ((inn 16 true p).getD 0 []) = _
   rw [Ok (by rintro ⟨z, hz, _⟩; cases hz)]
   rfl
  have loop := Tot.loop (H := fun k q r v s => Br_l1 (lv k) k (gi p 0) (gr p 1) (gr p 2) q s.1 v (A4 p).n (A4 p).s (A4 p).e (A4 p).E ((A4 p).T.map nf) (inn 16 true p) s.2.1 s.2.2.1 s.2.2.2) (Q := fun r => r = (DD p, (DD p).map C7, Ct 0 (DD p), (A4 p).n, (A4 p).s, (A4 p).e, (A4 p).E, (A4 p).T.map nf)) (n := (inn 16 true p).length) (fun i s => s = (Be (((inn 16 true p).take i).foldl E8 []), ((inn 16 true p).take i).foldl E8 [], (((inn 16 true p).take i).foldl E8 []).map C7, Ct 0 (((inn 16 true p).take i).foldl E8 []))) (by omega) (fun s hs => ?_) (fun i s hi hs next => ?_) _ 1 (nst ((inn 16 true p).getD 0 []), [row3 ((inn 16 true p).getD 0 [])], [C7 ((inn 16 true p).getD 0 [])], [[C.int .i64 0]]) rfl (by omega) (by
   rw [e1]
   simp only [Be, Ct, List.map_cons, List.map_nil, Int.add_zero]
   rfl)
  ·rw [Ai (x := (0 : Int) + (A4 ((inn 16 true p).getD 0 [])).n) (by have := hn1.1; unfold nst at this; omega) (by have := hn1.2; unfold nst at this; omega), Int.zero_add]
   exact loop
  ·subst hs
   refine Tot.step0 (fun _ _ _ => Br_l1_q ..) ?_
   rw [List.take_length]
   exact Tot.f (decide_eq_false (by omega)) (Tot.ret rfl)
  ·have hd := Y4 h i (by omega)
   have hti : ((inn 16 true p).take (i + 1)).foldl E8 [] = E8 (((inn 16 true p).take i).foldl E8 []) ((inn 16 true p).getD i []) := by
    rw [G7 hi, List.foldl_append]
    rfl
   rw [hti] at next
   generalize ((inn 16 true p).take i).foldl E8 [] = D at hs hd next
   subst hs
   have hgi := h.inn _ (Eb (d := []) hi)
   have b0 : D.length ≤ 63 := by have := hd.len; rw [List.length_take] at this; omega
   refine Tot.step0 (fun _ _ _ => Br_l1_q ..) ?_
   rw [Int.toNat_natCast]
   repeat (refine Tot.t (decide_eq_true (by omega)) ?_)
   refine Tot.bind (P1 D _ _ _ _ _ _ _ _ hd.good (by omega) hgi.sm) fun r hr => Tot.cond (fun hc => ?_) (fun hc => ?_)
   ·have hc := of_decide_eq_true hc
    have hex : ∃ z, z ∈ D ∧ Bq true z ((inn 16 true p).getD i []) := by
     rcases hr with ⟨e, _⟩ | ⟨j, _, e1, e2, _⟩
     ·omega
     ·exact ⟨_, Eb e1, e2⟩
    rw [Qw hex] at next
    exact next _ rfl
   ·have hc := of_decide_eq_false hc
    have hex : ¬ ∃ z, z ∈ D ∧ Bq true z ((inn 16 true p).getD i []) := by
     rintro ⟨z, hz, ha⟩
     obtain ⟨j, hj, rfl⟩ := Fe hz
     rcases hr with ⟨e, e1⟩ | ⟨j, e, _⟩
     ·exact e1 j hj ha
     ·omega
    rw [Ok hex] at next
    repeat (refine Tot.t (decide_eq_true (by omega)) ?_)
    refine Tot.bind (P0 hgi) fun r hr => ?_
    subst hr
    repeat (refine Tot.t (decide_eq_true (by omega)) ?_)
    have b1 := F7 hd.good
    have b2 := hgi.nst
    refine Tot.t (D5 Gw (by show D.length + 1 ≤ _; omega)) (Tot.t (D5 Yl (by simp; omega)) (Tot.t (D5 Gx (by rw [M3]; omega)) ?_))
    have nx := next _ rfl
    rw [I8, Ye, List.map_append] at nx
    simp only [Be, Ct, List.map_cons, List.map_nil, Int.add_zero, Int.zero_add] at nx ⊢
    rw [Ai (x := Be D + (A4 ((inn 16 true p).getD i [])).n) (by unfold nst at b2; omega) (by unfold nst at b2; omega)]
    exact nx
 ·have h0 := of_decide_eq_false h0
  have : inn 16 true p = [] := List.length_eq_zero_iff.1 (by omega)
  unfold DD
  rw [this]
  rfl
theorem Aa8 (A B C' : LL) (n s e : Int) (E T D : LL) (f : List C → List C) (hB : B = D.map f) (hf : ∀ x, gi (f x) 0 = nst x) (hD : ∀ x, x ∈ D → Cb x) (hl : D.length ≤ 1000000) : Tot (fun k _ _ => (lv k).Ce A B C' n s e E T) (fun r => r = Be D) := by
 subst hB
 refine Ce_up _ _ _ _ _ _ _ _ (Tot.congr ?_ (fun _ _ _ => Ce_q ..))
 refine Tot.in0 (Tot.loop (H := fun k p q v w => Ce_l0 (lv k) k A (D.map f) C' n s e E T p w v) (n := D.length) (fun i w => w = Be (D.take i)) (by omega) (fun w hw => ?_) (fun i w hi hw next => ?_) _ 0 0 rfl (by omega) rfl)
 ·subst hw
  refine Tot.step0 (fun _ _ _ => Ce_l0_q ..) ?_
  rw [List.length_map, List.take_length]
  exact Tot.f (decide_eq_false (by omega)) (Tot.ret rfl)
 ·subst hw
  refine Tot.step0 (fun _ _ _ => Ce_l0_q ..) ?_
  rw [Int.toNat_natCast, List.length_map]
  repeat (refine Tot.t (decide_eq_true (by omega)) ?_)
  have e1 : (D.map f).getD i [] = f (D.getD i []) := by simp [List.getD_eq_getElem?_getD, hi]
  have b1 := F7 (Ix hD i)
  have b2 := (hD _ (Eb (d := []) hi)).nst
  have b3 : (D.take i).length ≤ i := by simp; omega
  rw [e1, hf]
  refine next _ ?_
  rw [Ai (by omega) (by omega), G7 hi, I8]
  simp [Be]
theorem Aew (A B C' : LL) (n s e : Int) (E T D : LL) (f : List C → List C) (hB : B = D.map f) (hf : ∀ x, gi (f x) 0 = nst x) (hD : ∀ x, x ∈ D → Cb x) (hl : D.length ≤ 1000000) : Tot (fun k _ _ => (lv k).Cc A B C' n s e E T) (fun r => r = Be D) := by
 subst hB
 refine Cc_up _ _ _ _ _ _ _ _ (Tot.congr ?_ (fun _ _ _ => Cc_q ..))
 refine Tot.in0 (Tot.loop (H := fun k p q v w => Cc_l0 (lv k) k A (D.map f) C' n s e E T p w v) (n := D.length) (fun i w => w = Be (D.take i)) (by omega) (fun w hw => ?_) (fun i w hi hw next => ?_) _ 0 0 rfl (by omega) rfl)
 ·subst hw
  refine Tot.step0 (fun _ _ _ => Cc_l0_q ..) ?_
  rw [List.length_map, List.take_length]
  exact Tot.f (decide_eq_false (by omega)) (Tot.ret rfl)
 ·subst hw
  refine Tot.step0 (fun _ _ _ => Cc_l0_q ..) ?_
  rw [Int.toNat_natCast, List.length_map]
  repeat (refine Tot.t (decide_eq_true (by omega)) ?_)
  have e1 : (D.map f).getD i [] = f (D.getD i []) := by simp [List.getD_eq_getElem?_getD, hi]
  have b1 := F7 (Ix hD i)
  have b2 := (hD _ (Eb (d := []) hi)).nst
  have b3 : (D.take i).length ≤ i := by simp; omega
  rw [e1, hf]
  refine next _ ?_
  rw [Ai (by omega) (by omega), G7 hi, I8]
  simp [Be]
theorem Agh {p : List C} (hp : SmR BB p) (h : ok 16 true p ∧ ∀ d, sz d true p ≤ 64) : Cb p := ⟨h.1, h.2, hp⟩
def EdI (lo hi tl th : Int) (r : List C) : Prop := lo ≤ gi r 0 ∧ gi r 0 < hi ∧ lo ≤ gi r 1 ∧ gi r 1 < hi ∧ (gi r 2 = 3 → tl ≤ gi r 3 ∧ gi r 3 < th)
theorem EdI.mono {lo hi tl th lo' hi' tl' th' : Int} {r : List C} (h : EdI lo hi tl th r) (h1 : lo' ≤ lo) (h2 : hi ≤ hi') (h3 : tl' ≤ tl) (h4 : th ≤ th') : EdI lo' hi' tl' th' r := by
 obtain ⟨a, b, c, d, e⟩ := h
 exact ⟨by omega, by omega, by omega, by omega, fun h => by have := e h; omega⟩
theorem Hw {lo hi tl th a b k t : Int} (h1 : lo ≤ a) (h2 : a < hi) (h3 : lo ≤ b) (h4 : b < hi) (h5 : k = 3 → tl ≤ t ∧ t < th) : EdI lo hi tl th (st4 a b k t) := ⟨h1, h2, h3, h4, h5⟩
structure Shp (n t : Int) (m : Mk) : Prop where
 ed : ∀ r, r ∈ m.E → EdI n m.n t (t + m.T.length) r
 s0 : n ≤ m.s
 s1 : m.s < m.n
 e0 : n ≤ m.e
 e1 : m.e < m.n
structure ShA (n t s : Int) (m : Al) : Prop where
 ed : ∀ r, r ∈ m.E → EdI n m.n t (t + m.T.length) r
 es : ∀ b, b ∈ m.es → n ≤ b ∧ b < m.n
 s0 : n ≤ s
 s1 : s < m.n
theorem Afl {f : List C → Int → Int → Mk} {n t : Int} : ∀ {l : LL} {m : Mk}, (∀ r, r ∈ l → ∀ n t, Shp n t (f r n t)) → Shp n t m → Shp n t (Ed f t l m) := by
 intro l
 induction l with
 | nil => intro m _ h; exact h
 | cons r l ih =>
  intro m hf hm
  have y := hf r List.mem_cons_self m.n (t + m.T.length)
  have h1 := hm.s0
  have h2 := hm.s1
  have h3 := hm.e0
  have h4 := hm.e1
  have h5 := y.s0
  have h6 := y.s1
  have h7 := y.e0
  have h8 := y.e1
  refine ih (fun r hr => hf r (List.mem_cons_of_mem _ hr)) ⟨fun x hx => ?_, h1, by show m.s < (f r m.n (t + m.T.length)).n; omega, by show n ≤ (f r m.n (t + m.T.length)).e; omega, h8⟩
  have hT : ((m.T ++ (f r m.n (t + m.T.length)).T).length : Int) = m.T.length + (f r m.n (t + m.T.length)).T.length := by simp
  show EdI n (f r m.n (t + m.T.length)).n t (t + ((m.T ++ (f r m.n (t + m.T.length)).T).length : Int)) x
  rw [hT]
  rcases List.mem_append.1 hx with hx | hx
  ·exact (hm.ed x hx).mono (by omega) (by omega) (by omega) (by omega)
  ·rcases List.mem_append.1 hx with hx | hx
   ·exact (y.ed x hx).mono (by omega) (by omega) (by omega) (by omega)
   ·rw [List.mem_singleton.1 hx]
    exact Hw (by omega) (by omega) (by omega) (by omega) (fun h => by cases h)
theorem Q3 {f : List C → Int → Int → Mk} {n t s : Int} : ∀ {l : LL} {m : Al}, (∀ r, r ∈ l → ∀ n t, Shp n t (f r n t)) → ShA n t s m → ShA n t s (Cr f t s l m) := by
 intro l
 induction l with
 | nil => intro m _ h; exact h
 | cons r l ih =>
  intro m hf hm
  have y := hf r List.mem_cons_self m.n (t + m.T.length)
  have h1 := hm.s0
  have h2 := hm.s1
  have h5 := y.s0
  have h6 := y.s1
  have h7 := y.e0
  have h8 := y.e1
  refine ih (fun r hr => hf r (List.mem_cons_of_mem _ hr)) ⟨fun x hx => ?_, fun b hb => ?_, h1, by show s < (f r m.n (t + m.T.length)).n; omega⟩
  ·have hT : ((m.T ++ (f r m.n (t + m.T.length)).T).length : Int) = m.T.length + (f r m.n (t + m.T.length)).T.length := by simp
   show EdI n (f r m.n (t + m.T.length)).n t (t + ((m.T ++ (f r m.n (t + m.T.length)).T).length : Int)) x
   rw [hT]
   rcases List.mem_append.1 hx with hx | hx
   ·exact (hm.ed x hx).mono (by omega) (by omega) (by omega) (by omega)
   ·rcases List.mem_append.1 hx with hx | hx
    ·exact (y.ed x hx).mono (by omega) (by omega) (by omega) (by omega)
    ·rw [List.mem_singleton.1 hx]
     exact Hw (by omega) (by omega) (by omega) (by omega) (fun h => by cases h)
  ·show n ≤ b ∧ b < (f r m.n (t + m.T.length)).n
   rcases List.mem_append.1 hb with hb | hb
   ·have := hm.es b hb; omega
   ·rw [List.mem_singleton.1 hb]; omega
theorem Jo : ∀ (d : Nat) (op : Int) (subs tests : LL) (n t : Int), POk d op subs tests → Shp n t (mk d op subs tests n t) := by
 intro d
 induction d with
 | zero => intro op subs tests n t h; exact h.elim
 | succ d ih =>
  intro op subs tests n t h
  obtain ⟨h1, h7, h45, h6, h77, ht, hl, h0, hsub⟩ := h
  have hf : ∀ r, r ∈ subs → ∀ n t, Shp n t (fr d r n t) := fun r hr n t => ih _ _ _ n t (hsub r hr)
  by_cases e4 : op = 4
  ·cases subs with
   | nil => have := h45 (.inl e4); simp at this
   | cons r l => rw [Ug e4]; exact Afl (fun r hr => hf r (List.mem_cons_of_mem _ hr)) (hf r List.mem_cons_self n t)
  ·by_cases e5 : op = 5
   ·rw [Uh e5]
    have a := Q3 (l := subs) (n := n) (t := t) (s := n) (m := ⟨n + 1, [], [], []⟩) hf ⟨fun r hr => (by cases hr), fun b hb => (by cases hb), Int.le_refl _, by show n < n + 1; omega⟩
    have g1 := a.s1
    refine ⟨fun x hx => ?_, Int.le_refl _, by show n < (Cr _ _ _ _ _).n + 1; omega, by show n ≤ (Cr _ _ _ _ _).n; omega, by show (Cr _ _ _ _ _).n < (Cr _ _ _ _ _).n + 1; omega⟩
    rcases List.mem_append.1 hx with hx | hx
    ·exact (a.ed x hx).mono (Int.le_refl _) (by show _ ≤ (Cr _ _ _ _ _).n + 1; omega) (Int.le_refl _) (Int.le_refl _)
    ·obtain ⟨b, hb, rfl⟩ := List.mem_map.1 hx
     have := a.es b hb
     exact Hw (by omega) (by show b < (Cr _ _ _ _ _).n + 1; omega) (by omega) (by show (Cr _ _ _ _ _).n < (Cr _ _ _ _ _).n + 1; omega) (fun h => by cases h)
   ·by_cases e6 : op = 6
    ·cases subs with
     | nil => have := h6 e6; simp at this
     | cons r l =>
      rw [Ui e6]
      have y := hf r List.mem_cons_self (n + 1) t
      have g1 := y.s0
      have g2 := y.s1
      have g3 := y.e0
      have g4 := y.e1
      refine ⟨fun x hx => ?_, Int.le_refl _, by show n < (fr d r (n + 1) t).n; omega, Int.le_refl _, by show n < (fr d r (n + 1) t).n; omega⟩
      rcases List.mem_append.1 hx with hx | hx
      ·rcases List.mem_append.1 hx with hx | hx
       ·exact (y.ed x hx).mono (by omega) (Int.le_refl _) (Int.le_refl _) (Int.le_refl _)
       ·rw [List.mem_singleton.1 hx]
        exact Hw (Int.le_refl _) (by show n < (fr d r (n + 1) t).n; omega) (by omega) g2 (fun h => by cases h)
      ·rw [List.mem_singleton.1 hx]
       exact Hw (by omega) g4 (Int.le_refl _) (by show n < (fr d r (n + 1) t).n; omega) (fun h => by cases h)
    ·by_cases e7 : op = 7
     ·rw [Uj e7]
      have htl := h77.1 e7
      refine ⟨fun x hx => ?_, Int.le_refl _, by show n < n + 2; omega, by show n ≤ n + 1; omega, by show n + 1 < n + 2; omega⟩
      rw [List.mem_singleton.1 hx]
      exact Hw (Int.le_refl _) (by show n < n + 2; omega) (by omega) (by show n + 1 < n + 2; omega) (fun _ => ⟨Int.le_refl _, by show t < t + (tests.length : Int); omega⟩)
     ·rw [Uf e4 e5 e6 e7]
      refine ⟨fun x hx => ?_, Int.le_refl _, by show n < n + 2; omega, by show n ≤ n + 1; omega, by show n + 1 < n + 2; omega⟩
      rw [List.mem_singleton.1 hx]
      refine Hw (Int.le_refl _) (by show n < n + 2; omega) (by omega) (by show n + 1 < n + 2; omega) (fun h => ?_)
      unfold Gq at h
      split at h
      ·cases h
      ·split at h <;> cases h
def Gc (R : List C → Int → Int → Prop) : LL → Int → Int → Prop
 | [], x, m => x = m
 | r :: l, x, m => ∃ y, R r x y ∧ Gc R l y m
inductive F3 (R : Int → Int → Prop) : Int → Int → Prop where
 | refl (x : Int) : F3 R x x
 | step {x y z : Int} : R x y → F3 R y z → F3 R x z
def PR (ff nf : Int → Int) (HT : List C → Int → Prop) : Nat → List C → Int → Int → Prop
 | 0, _, _, _ => False
 | d + 1, a, x, m =>
  if gi a 0 = 1 then x = m
  else if gi a 0 = 4 then Gc (PR ff nf HT d) (gr a 1) x m
  else if gi a 0 = 6 then F3 (PR ff nf HT d ((gr a 1).getD 0 [])) x m
  else (gi a 0 = 2 ∧ m = ff x ∧ 0 ≤ ff x) ∨ (gi a 0 = 3 ∧ m = nf x ∧ 0 ≤ nf x) ∨ (gi a 0 = 7 ∧ m = x ∧ HT ((gr a 2).getD 0 []) x) ∨ ∃ r, r ∈ gr a 1 ∧ PR ff nf HT d r x m
def Stp (ff nf : Int → Int) (HS : Int → Int → Prop) (r : List C) (n n' : Int) : Prop :=
 (gi r 2 = 0 ∧ n' = n) ∨ (gi r 2 = 1 ∧ n' = ff n ∧ 0 ≤ ff n) ∨ (gi r 2 = 2 ∧ n' = nf n ∧ 0 ≤ nf n) ∨ (gi r 2 = 3 ∧ n' = n ∧ HS (gi r 3) n)
section
variable {ff nf : Int → Int} {HT : List C → Int → Prop} {HS : Int → Int → Prop}
def TC (HT : List C → Int → Prop) (HS : Int → Int → Prop) (t : Int) (T : LL) : Prop := ∀ j : Nat, j < T.length → ∀ x, HS (t + j) x ↔ HT (T.getD j []) x
theorem TC.left {t : Int} {A B : LL} (h : TC HT HS t (A ++ B)) : TC HT HS t A := fun j hj x => by
 have := h j (by rw [List.length_append]; omega) x
 rw [List.getD_eq_getElem?_getD, List.getElem?_append_left hj, ← List.getD_eq_getElem?_getD] at this
 exact this
theorem TC.right {t : Int} {A B : LL} (h : TC HT HS t (A ++ B)) : TC HT HS (t + A.length) B := fun j hj x => by
 have := h (A.length + j) (by rw [List.length_append]; omega) x
 rw [List.getD_eq_getElem?_getD, List.getElem?_append_right (by omega), Nat.add_sub_cancel_left, ← List.getD_eq_getElem?_getD, show t + ((A.length + j : Nat) : Int) = t + A.length + j by omega] at this
 exact this
theorem N3 {f : List C → Int → Int → Mk} {t : Int} : ∀ (l : LL) (m : Mk), ∃ W, (Ed f t l m).T = m.T ++ W := by
 intro l
 induction l with
 | nil => intro m; exact ⟨[], (List.append_nil _).symm⟩
 | cons r l ih =>
  intro m
  obtain ⟨W, hW⟩ := ih ⟨(f r m.n (t + m.T.length)).n, m.E ++ ((f r m.n (t + m.T.length)).E ++ [st4 m.e (f r m.n (t + m.T.length)).s 0 0]), m.T ++ (f r m.n (t + m.T.length)).T, m.s, (f r m.n (t + m.T.length)).e⟩
  exact ⟨(f r m.n (t + m.T.length)).T ++ W, by rw [← List.append_assoc]; exact hW⟩
theorem Q2 {f : List C → Int → Int → Mk} {t s : Int} : ∀ (l : LL) (m : Al), ∃ W, (Cr f t s l m).T = m.T ++ W := by
 intro l
 induction l with
 | nil => intro m; exact ⟨[], (List.append_nil _).symm⟩
 | cons r l ih =>
  intro m
  obtain ⟨W, hW⟩ := ih ⟨(f r m.n (t + m.T.length)).n, m.E ++ ((f r m.n (t + m.T.length)).E ++ [st4 s (f r m.n (t + m.T.length)).s 0 0]), m.T ++ (f r m.n (t + m.T.length)).T, m.es ++ [(f r m.n (t + m.T.length)).e]⟩
  exact ⟨(f r m.n (t + m.T.length)).T ++ W, by rw [← List.append_assoc]; exact hW⟩
structure Fam (ff nf : Int → Int) (HS : Int → Int → Prop) (lo : Int) (m : Mk) (P : Int → Int → Prop) (R : Int → Int → Int → Prop) : Prop where
 fin : ∀ n, R m.e n n
 cl : ∀ r, r ∈ m.E → ∀ n n', Stp ff nf HS r n n' → ∀ k, R (gi r 1) n' k → R (gi r 0) n k
 st : ∀ n k, R m.s n k → P n k
 out : ∀ q n k, R q n k → lo ≤ q ∧ q < m.n
theorem Jz (a b k t : Int) : gi (st4 a b k t) 0 = a := rfl
theorem I5 (a b k t : Int) : gi (st4 a b k t) 1 = b := rfl
theorem F6 (a b k t : Int) : gi (st4 a b k t) 2 = k := rfl
theorem Afv (a b k t : Int) : gi (st4 a b k t) 3 = t := rfl
theorem K8 {a b n n' : Int} (h : Stp ff nf HS (st4 a b 0 0) n n') : n' = n := by
 rcases h with h | h | h | h
 ·exact h.2
 ·have := h.1; rw [F6] at this; omega
 ·have := h.1; rw [F6] at this; omega
 ·have := h.1; rw [F6] at this; omega
theorem Shp.lo {n t : Int} {m : Mk} (h : Shp n t m) : n ≤ m.n := by have := h.s0; have := h.s1; omega
theorem Afm {f : List C → Int → Int → Mk} {t lo : Int} {Q : List C → Int → Int → Prop} : ∀ (l : LL) (m : Mk) (P : Int → Int → Prop) (R : Int → Int → Int → Prop),
  (∀ r, r ∈ l → ∀ n t', Shp n t' (f r n t')) → (∀ r, r ∈ l → ∀ n t', TC HT HS t' (f r n t').T → ∃ R, Fam ff nf HS n (f r n t') (Q r) R) → TC HT HS t (Ed f t l m).T → Shp lo t m → Fam ff nf HS lo m P R →
  ∃ R', Fam ff nf HS lo (Ed f t l m) (fun x k => ∃ y, P x y ∧ Gc Q l y k) R' := by
 intro l
 induction l with
 | nil =>
  intro m P R _ _ _ _ h
  exact ⟨R, h.fin, h.cl, fun n k hr => ⟨k, h.st n k hr, rfl⟩, h.out⟩
 | cons r l ih =>
  intro m P R hs hq ht sm h
  have y := hs r List.mem_cons_self m.n (t + m.T.length)
  generalize hg : f r m.n (t + m.T.length) = g at y
  have e1 : Ed f t (r :: l) m = Ed f t l ⟨g.n, m.E ++ (g.E ++ [st4 m.e g.s 0 0]), m.T ++ g.T, m.s, g.e⟩ := by subst hg; rfl
  rw [e1] at ht ⊢
  obtain ⟨W, hW⟩ := N3 (f := f) (t := t) l ⟨g.n, m.E ++ (g.E ++ [st4 m.e g.s 0 0]), m.T ++ g.T, m.s, g.e⟩
  have ht2 := ht
  rw [hW] at ht2
  have htg : TC HT HS (t + m.T.length) g.T := ht2.left.right
  obtain ⟨Rg, fg⟩ := hq r List.mem_cons_self m.n (t + m.T.length) (by rw [hg]; exact htg)
  rw [hg] at fg
  have y0 := y.s0; have y1 := y.s1; have y2 := y.e0; have y3 := y.e1
  have x0 := sm.s0; have x1 := sm.s1; have x2 := sm.e0; have x3 := sm.e1
  have sm' : Shp lo t ⟨g.n, m.E ++ (g.E ++ [st4 m.e g.s 0 0]), m.T ++ g.T, m.s, g.e⟩ := by
   refine ⟨fun q hq => ?_, x0, by show m.s < g.n; omega, by show lo ≤ g.e; omega, y3⟩
   show EdI lo g.n t (t + (m.T ++ g.T).length) q
   rw [List.length_append]
   rcases List.mem_append.1 hq with hq | hq
   ·exact (sm.ed q hq).mono (by omega) (by omega) (by omega) (by omega)
   ·rcases List.mem_append.1 hq with hq | hq
    ·exact (y.ed q hq).mono (by omega) (by omega) (by omega) (by omega)
    ·rw [List.mem_singleton.1 hq]
     exact Hw (by omega) (by omega) (by omega) (by omega) (fun e => by omega)
  have fam : Fam ff nf HS lo ⟨g.n, m.E ++ (g.E ++ [st4 m.e g.s 0 0]), m.T ++ g.T, m.s, g.e⟩ (fun x k => ∃ y, P x y ∧ Q r y k) (fun q n k => (∃ y, R q n y ∧ Q r y k) ∨ Rg q n k) := by
   refine ⟨fun n => .inr (fg.fin n), fun e he n n' hst k hk => ?_, fun n k hk => ?_, fun q n k hk => ?_⟩
   ·rcases List.mem_append.1 he with he | he
    ·rcases hk with ⟨y, hy, hQ⟩ | hk
     ·exact .inl ⟨y, h.cl e he n n' hst y hy, hQ⟩
     ·have := fg.out _ _ _ hk
      have := (sm.ed e he).2.2.2.1
      omega
    ·rcases List.mem_append.1 he with he | he
     ·rcases hk with ⟨y', hy, hQ⟩ | hk
      ·have := h.out _ _ _ hy
       have := (y.ed e he).2.2.1
       omega
      ·exact .inr (fg.cl e he n n' hst k hk)
     ·rw [List.mem_singleton.1 he] at hst hk ⊢
      rw [I5] at hk
      rw [K8 hst] at hk
      rw [Jz]
      rcases hk with ⟨y', hy, hQ⟩ | hk
      ·have := h.out _ _ _ hy; omega
      ·exact .inl ⟨n, h.fin n, fg.st n k hk⟩
   ·rcases hk with ⟨y', hy, hQ⟩ | hk
    ·exact ⟨y', h.st n y' hy, hQ⟩
    ·have := fg.out _ _ _ hk
     have e : (⟨g.n, m.E ++ (g.E ++ [st4 m.e g.s 0 0]), m.T ++ g.T, m.s, g.e⟩ : Mk).s = m.s := rfl
     rw [e] at this
     omega
   ·show lo ≤ q ∧ q < g.n
    rcases hk with ⟨y', hy, hQ⟩ | hk
    ·have := h.out _ _ _ hy; omega
    ·have := fg.out _ _ _ hk; omega
  obtain ⟨R', h'⟩ := ih _ _ _ (fun r hr => hs r (List.mem_cons_of_mem _ hr)) (fun r hr => hq r (List.mem_cons_of_mem _ hr)) ht sm' fam
  exact ⟨R', h'.fin, h'.cl, fun n k hk => by
   obtain ⟨z, ⟨y', a, b⟩, c⟩ := h'.st n k hk
   exact ⟨y', a, z, b, c⟩, h'.out⟩
structure Mu (ff nf : Int → Int) (HS : Int → Int → Prop) (lo : Int) (m : Al) (P : Int → Int → Prop) (R : Int → Int → Int → Prop) : Prop where
 fin : ∀ b, b ∈ m.es → ∀ n, R b n n
 cl : ∀ r, r ∈ m.E → ∀ n n', Stp ff nf HS r n n' → ∀ k, R (gi r 1) n' k → R (gi r 0) n k
 tg : ∀ r, r ∈ m.E → lo < gi r 1
 st : ∀ n k, R lo n k → P n k
 out : ∀ q n k, R q n k → lo ≤ q ∧ q < m.n
theorem Xj {f : List C → Int → Int → Mk} {t lo : Int} {Q : List C → Int → Int → Prop} : ∀ (l : LL) (m : Al) (P : Int → Int → Prop) (R : Int → Int → Int → Prop),
  (∀ r, r ∈ l → ∀ n t', Shp n t' (f r n t')) → (∀ r, r ∈ l → ∀ n t', TC HT HS t' (f r n t').T → ∃ R, Fam ff nf HS n (f r n t') (Q r) R) → TC HT HS t (Cr f t lo l m).T → ShA lo t lo m → Mu ff nf HS lo m P R →
  ∃ R', Mu ff nf HS lo (Cr f t lo l m) (fun x k => P x k ∨ ∃ r, r ∈ l ∧ Q r x k) R' := by
 intro l
 induction l with
 | nil =>
  intro m P R _ _ _ _ h
  exact ⟨R, h.fin, h.cl, h.tg, fun n k hr => .inl (h.st n k hr), h.out⟩
 | cons r l ih =>
  intro m P R hs hq ht sm h
  have y := hs r List.mem_cons_self m.n (t + m.T.length)
  generalize hg : f r m.n (t + m.T.length) = g at y
  have e1 : Cr f t lo (r :: l) m = Cr f t lo l ⟨g.n, m.E ++ (g.E ++ [st4 lo g.s 0 0]), m.T ++ g.T, m.es ++ [g.e]⟩ := by subst hg; rfl
  rw [e1] at ht ⊢
  obtain ⟨W, hW⟩ := Q2 (f := f) (t := t) (s := lo) l ⟨g.n, m.E ++ (g.E ++ [st4 lo g.s 0 0]), m.T ++ g.T, m.es ++ [g.e]⟩
  have ht2 := ht
  rw [hW] at ht2
  have htg : TC HT HS (t + m.T.length) g.T := ht2.left.right
  obtain ⟨Rg, fg⟩ := hq r List.mem_cons_self m.n (t + m.T.length) (by rw [hg]; exact htg)
  rw [hg] at fg
  have y0 := y.s0; have y1 := y.s1; have y2 := y.e0; have y3 := y.e1
  have x1 := sm.s1
  have sm' : ShA lo t lo ⟨g.n, m.E ++ (g.E ++ [st4 lo g.s 0 0]), m.T ++ g.T, m.es ++ [g.e]⟩ := by
   refine ⟨fun q hq => ?_, fun b hb => ?_, Int.le_refl _, by show lo < g.n; omega⟩
   ·show EdI lo g.n t (t + (m.T ++ g.T).length) q
    rw [List.length_append]
    rcases List.mem_append.1 hq with hq | hq
    ·exact (sm.ed q hq).mono (by omega) (by omega) (by omega) (by omega)
    ·rcases List.mem_append.1 hq with hq | hq
     ·exact (y.ed q hq).mono (by omega) (by omega) (by omega) (by omega)
     ·rw [List.mem_singleton.1 hq]
      exact Hw (by omega) (by omega) (by omega) (by omega) (fun e => by omega)
   ·show lo ≤ b ∧ b < g.n
    rcases List.mem_append.1 hb with hb | hb
    ·have := sm.es b hb; omega
    ·rw [List.mem_singleton.1 hb]; omega
  have fam : Mu ff nf HS lo ⟨g.n, m.E ++ (g.E ++ [st4 lo g.s 0 0]), m.T ++ g.T, m.es ++ [g.e]⟩ (fun x k => P x k ∨ Q r x k) (fun q n k => R q n k ∨ Rg q n k ∨ (q = lo ∧ Q r n k)) := by
   refine ⟨fun b hb n => ?_, fun e he n n' hst k hk => ?_, fun e he => ?_, fun n k hk => ?_, fun q n k hk => ?_⟩
   ·rcases List.mem_append.1 hb with hb | hb
    ·exact .inl (h.fin b hb n)
    ·rw [List.mem_singleton.1 hb]; exact .inr (.inl (fg.fin n))
   ·rcases List.mem_append.1 he with he | he
    ·rcases hk with hk | hk | ⟨hk, _⟩
     ·exact .inl (h.cl e he n n' hst k hk)
     ·have := fg.out _ _ _ hk
      have := (sm.ed e he).2.2.2.1
      omega
     ·have := h.tg e he; omega
    ·rcases List.mem_append.1 he with he | he
     ·have hr := (y.ed e he).2.2.1
      rcases hk with hk | hk | ⟨hk, _⟩
      ·have := h.out _ _ _ hk; omega
      ·exact .inr (.inl (fg.cl e he n n' hst k hk))
      ·omega
     ·rw [List.mem_singleton.1 he] at hst hk ⊢
      rw [I5] at hk
      rw [K8 hst] at hk
      rw [Jz]
      rcases hk with hk | hk | ⟨hk, _⟩
      ·have := h.out _ _ _ hk; omega
      ·exact .inr (.inr ⟨rfl, fg.st n k hk⟩)
      ·omega
   ·rcases List.mem_append.1 he with he | he
    ·exact h.tg e he
    ·rcases List.mem_append.1 he with he | he
     ·have hr := (y.ed e he).2.2.1; omega
     ·rw [List.mem_singleton.1 he, I5]; omega
   ·rcases hk with hk | hk | ⟨_, hk⟩
    ·exact .inl (h.st n k hk)
    ·have := fg.out _ _ _ hk; omega
    ·exact .inr hk
   ·show lo ≤ q ∧ q < g.n
    rcases hk with hk | hk | ⟨hk, _⟩
    ·have := h.out _ _ _ hk; omega
    ·have := fg.out _ _ _ hk; omega
    ·omega
  obtain ⟨R', h'⟩ := ih _ _ _ (fun r hr => hs r (List.mem_cons_of_mem _ hr)) (fun r hr => hq r (List.mem_cons_of_mem _ hr)) ht sm' fam
  refine ⟨R', h'.fin, h'.cl, h'.tg, fun n k hk => ?_, h'.out⟩
  rcases h'.st n k hk with (a | a) | ⟨q, hq', a⟩
  ·exact .inl a
  ·exact .inr ⟨r, List.mem_cons_self, a⟩
  ·exact .inr ⟨q, List.mem_cons_of_mem _ hq', a⟩
theorem F3.trans {R : Int → Int → Prop} {x y z : Int} (h : F3 R x y) (h' : F3 R y z) : F3 R x z := by
 induction h with
 | refl => exact h'
 | step a _ ih => exact .step a (ih h')
theorem fam : ∀ (d : Nat) (a : List C) (n t : Int), POk d (gi a 0) (gr a 1) (gr a 2) → TC HT HS t (mk d (gi a 0) (gr a 1) (gr a 2) n t).T → ∃ R, Fam ff nf HS n (mk d (gi a 0) (gr a 1) (gr a 2) n t) (PR ff nf HT d a) R := by
 intro d
 induction d with
 | zero => intro a n t h; exact h.elim
 | succ d ih =>
  intro a n t h ht
  have hself := h
  obtain ⟨h1, h7, h45, h6, h77, htl, hl, h0, hsub⟩ := h
  have hs : ∀ r, r ∈ gr a 1 → ∀ n t', Shp n t' (mk d (gi r 0) (gr r 1) (gr r 2) n t') := fun r hr n t' => Jo d _ _ _ n t' (hsub r hr)
  have hq : ∀ r, r ∈ gr a 1 → ∀ n t', TC HT HS t' (mk d (gi r 0) (gr r 1) (gr r 2) n t').T → ∃ R, Fam ff nf HS n (mk d (gi r 0) (gr r 1) (gr r 2) n t') (PR ff nf HT d r) R := fun r hr n t' => ih r n t' (hsub r hr)
  unfold mk at ht ⊢
  by_cases e4 : gi a 0 = 4
  ·have hP : ∀ x m, PR ff nf HT (d + 1) a x m ↔ Gc (PR ff nf HT d) (gr a 1) x m := fun x m => by rw [PR, if_neg (by omega), if_pos e4]
   rw [if_pos e4] at ht ⊢
   cases hc : gr a 1 with
   | nil => have := h45 (.inl e4); rw [hc] at this; simp at this
   | cons r l =>
    rw [hc] at ht hs hq hP
    obtain ⟨W, hW⟩ := N3 (f := fun r => mk d (gi r 0) (gr r 1) (gr r 2)) (t := t) l (mk d (gi r 0) (gr r 1) (gr r 2) n t)
    have ht2 : TC HT HS t (Ed (fun r => mk d (gi r 0) (gr r 1) (gr r 2)) t l (mk d (gi r 0) (gr r 1) (gr r 2) n t)).T := ht
    have ht3 := ht2
    rw [hW] at ht3
    obtain ⟨R0, f0⟩ := hq r List.mem_cons_self n t ht3.left
    obtain ⟨R, hR⟩ := Afm (Q := PR ff nf HT d) l _ _ R0 (fun r hr => hs r (List.mem_cons_of_mem _ hr)) (fun r hr => hq r (List.mem_cons_of_mem _ hr)) ht2 (hs r List.mem_cons_self n t) f0
    exact ⟨R, hR.fin, hR.cl, fun x k hk => (hP x k).2 (hR.st x k hk), hR.out⟩
  rw [if_neg e4] at ht ⊢
  by_cases e5 : gi a 0 = 5
  ·have hP : ∀ x m, (∃ r, r ∈ gr a 1 ∧ PR ff nf HT d r x m) → PR ff nf HT (d + 1) a x m := fun x m hm => by
    rw [PR, if_neg (by omega), if_neg (by omega), if_neg (by omega)]; exact .inr (.inr (.inr hm))
   rw [if_pos e5] at ht ⊢
   have sA : ShA n t n ⟨n + 1, [], [], []⟩ := ⟨fun r hr => (by cases hr), fun b hb => (by cases hb), Int.le_refl _, by show n < n + 1; omega⟩
   have fA : Mu ff nf HS n ⟨n + 1, [], [], []⟩ (fun _ _ => False) (fun _ _ _ => False) := ⟨fun b hb => (by cases hb), fun r hr => (by cases hr), fun r hr => (by cases hr), fun _ _ hk => hk.elim, fun _ _ _ hk => hk.elim⟩
   have ht2 : TC HT HS t (Cr (fun r => mk d (gi r 0) (gr r 1) (gr r 2)) t n (gr a 1) ⟨n + 1, [], [], []⟩).T := ht
   obtain ⟨R, hR⟩ := Xj (Q := PR ff nf HT d) (gr a 1) _ _ _ hs hq ht2 sA fA
   have shp := Q3 (n := n) (t := t) (s := n) (l := gr a 1) (f := fun r => mk d (gi r 0) (gr r 1) (gr r 2)) (m := ⟨n + 1, [], [], []⟩) hs sA
   generalize Cr (fun r => mk d (gi r 0) (gr r 1) (gr r 2)) t n (gr a 1) ⟨n + 1, [], [], []⟩ = A at *
   have a1 := shp.s1
   refine ⟨fun q x k => R q x k ∨ (q = A.n ∧ x = k), fun x => .inr ⟨rfl, rfl⟩, fun e he x x' hst k hk => ?_, fun x k hk => ?_, fun q x k hk => ?_⟩
   ·rcases List.mem_append.1 he with he | he
    ·rcases hk with hk | ⟨hk, _⟩
     ·exact .inl (hR.cl e he x x' hst k hk)
     ·have := (shp.ed e he).2.2.2.1; omega
    ·obtain ⟨b, hb, rfl⟩ := List.mem_map.1 he
     rw [I5, K8 hst] at hk
     rw [Jz]
     rcases hk with hk | ⟨_, hk⟩
     ·have := hR.out _ _ _ hk; omega
     ·subst hk; exact .inl (hR.fin b hb x)
   ·rcases hk with hk | ⟨hk, _⟩
    ·rcases hR.st x k hk with h | h
     ·exact h.elim
     ·exact hP x k h
    ·have hk : n = A.n := hk
     omega
   ·show n ≤ q ∧ q < A.n + 1
    rcases hk with hk | ⟨hk, _⟩
    ·have := hR.out _ _ _ hk; omega
    ·omega
  rw [if_neg e5] at ht ⊢
  by_cases e6 : gi a 0 = 6
  ·rw [if_pos e6] at ht ⊢
   have hP : ∀ x m, PR ff nf HT (d + 1) a x m ↔ F3 (PR ff nf HT d ((gr a 1).getD 0 [])) x m := fun x m => by rw [PR, if_neg (by omega), if_neg (by omega), if_pos e6]
   cases hc : gr a 1 with
   | nil => have := h6 e6; rw [hc] at this; simp at this
   | cons r l =>
    rw [hc] at ht hs hq hP
    dsimp only at ht ⊢
    have ht2 : TC HT HS t (mk d (gi r 0) (gr r 1) (gr r 2) (n + 1) t).T := ht
    have y := hs r List.mem_cons_self (n + 1) t
    obtain ⟨Rg, fg⟩ := hq r List.mem_cons_self (n + 1) t ht2
    have hP' : ∀ x m, PR ff nf HT (d + 1) a x m ↔ F3 (PR ff nf HT d r) x m := hP
    generalize mk d (gi r 0) (gr r 1) (gr r 2) (n + 1) t = g at *
    have y0 := y.s0; have y1 := y.s1; have y2 := y.e0; have y3 := y.e1
    refine ⟨fun q x k => (∃ y, Rg q x y ∧ F3 (PR ff nf HT d r) y k) ∨ (q = n ∧ F3 (PR ff nf HT d r) x k), fun x => .inr ⟨rfl, .refl x⟩, fun e he x x' hst k hk => ?_, fun x k hk => ?_, fun q x k hk => ?_⟩
    ·rcases List.mem_append.1 he with he | he
     ·rcases List.mem_append.1 he with he | he
      ·rcases hk with ⟨z, hz, hS⟩ | ⟨hk, _⟩
       ·exact .inl ⟨z, fg.cl e he x x' hst z hz, hS⟩
       ·have := (y.ed e he).2.2.1; omega
      ·rw [List.mem_singleton.1 he] at hst hk ⊢
       rw [I5, K8 hst] at hk
       rw [Jz]
       rcases hk with ⟨z, hz, hS⟩ | ⟨hk, _⟩
       ·exact .inr ⟨rfl, .step (fg.st x z hz) hS⟩
       ·omega
     ·rw [List.mem_singleton.1 he] at hst hk ⊢
      rw [I5, K8 hst] at hk
      rw [Jz]
      rcases hk with ⟨z, hz, hS⟩ | ⟨_, hk⟩
      ·have := fg.out _ _ _ hz; omega
      ·exact .inl ⟨x, fg.fin x, hk⟩
    ·rw [hP']
     rcases hk with ⟨z, hz, hS⟩ | ⟨_, hk⟩
     ·have hz : Rg n x z := hz
      have := fg.out _ _ _ hz; omega
     ·exact hk
    ·show n ≤ q ∧ q < g.n
     rcases hk with ⟨z, hz, hS⟩ | ⟨hk, _⟩
     ·have := fg.out _ _ _ hz; omega
     ·omega
  rw [if_neg e6] at ht ⊢
  have hP : ∀ x m, ((gi a 0 = 1 ∧ x = m) ∨ (gi a 0 = 2 ∧ m = ff x ∧ 0 ≤ ff x) ∨ (gi a 0 = 3 ∧ m = nf x ∧ 0 ≤ nf x) ∨ (gi a 0 = 7 ∧ m = x ∧ HT ((gr a 2).getD 0 []) x)) → PR ff nf HT (d + 1) a x m := fun x m hm => by
   rw [PR]
   by_cases e1 : gi a 0 = 1
   ·rw [if_pos e1]
    rcases hm with h | h | h | h
    ·exact h.2
    ·omega
    ·omega
    ·omega
   ·rw [if_neg e1, if_neg e4, if_neg e6]
    rcases hm with h | h | h | h
    ·exact absurd h.1 e1
    ·exact .inl h
    ·exact .inr (.inl h)
    ·exact .inr (.inr (.inl h))
  by_cases e7 : gi a 0 = 7
  ·rw [if_pos e7] at ht ⊢
   have hl1 := h77.1 e7
   refine ⟨fun q x k => (q = n ∧ HT ((gr a 2).getD 0 []) x ∧ x = k) ∨ (q = n + 1 ∧ x = k), fun x => .inr ⟨rfl, rfl⟩, fun e he x x' hst k hk => ?_, fun x k hk => ?_, fun q x k hk => ?_⟩
   ·rw [List.mem_singleton.1 he] at hst hk ⊢
    rw [I5] at hk
    rw [Jz]
    have hx : x' = x ∧ HS t x := by
     rcases hst with h | h | h | h
     ·have := h.1; rw [F6] at this; omega
     ·have := h.1; rw [F6] at this; omega
     ·have := h.1; rw [F6] at this; omega
     ·have h3 := h.2.2; rw [Afv] at h3; exact ⟨h.2.1, h3⟩
    have hT := (ht 0 (by show 0 < (gr a 2).length; omega) x).1 (by rw [show t + ((0 : Nat) : Int) = t by omega]; exact hx.2)
    rw [hx.1] at hk
    rcases hk with ⟨hk, _⟩ | ⟨_, hk⟩
    ·omega
    ·exact .inl ⟨rfl, hT, hk⟩
   ·rcases hk with ⟨_, hk, e⟩ | ⟨hk, _⟩
    ·exact hP x k (.inr (.inr (.inr ⟨e7, e.symm, hk⟩)))
    ·have hk : n = n + 1 := hk
     omega
   ·show n ≤ q ∧ q < n + 2
    rcases hk with ⟨hk, _⟩ | ⟨hk, _⟩ <;> omega
  rw [if_neg e7] at ht ⊢
  refine ⟨fun q x k => (q = n ∧ ((gi a 0 = 2 ∧ k = ff x ∧ 0 ≤ ff x) ∨ (gi a 0 = 3 ∧ k = nf x ∧ 0 ≤ nf x) ∨ (gi a 0 = 1 ∧ x = k))) ∨ (q = n + 1 ∧ x = k), fun x => .inr ⟨rfl, rfl⟩, fun e he x x' hst k hk => ?_, fun x k hk => ?_, fun q x k hk => ?_⟩
  ·rw [List.mem_singleton.1 he] at hst hk ⊢
   rw [I5] at hk
   rw [Jz]
   rcases hk with ⟨hk, _⟩ | ⟨_, hk⟩
   ·omega
   subst hk
   refine .inl ⟨rfl, ?_⟩
   unfold Gq at hst
   by_cases e2 : gi a 0 = 2
   ·rw [if_pos e2] at hst
    rcases hst with h | h | h | h
    ·have := h.1; rw [F6] at this; omega
    ·exact .inl ⟨e2, h.2⟩
    ·have := h.1; rw [F6] at this; omega
    ·have := h.1; rw [F6] at this; omega
   ·rw [if_neg e2] at hst
    by_cases e3 : gi a 0 = 3
    ·rw [if_pos e3] at hst
     rcases hst with h | h | h | h
     ·have := h.1; rw [F6] at this; omega
     ·have := h.1; rw [F6] at this; omega
     ·exact .inr (.inl ⟨e3, h.2⟩)
     ·have := h.1; rw [F6] at this; omega
    ·rw [if_neg e3] at hst
     have := K8 hst
     exact .inr (.inr ⟨by omega, this.symm⟩)
  ·rcases hk with ⟨_, h | h | h⟩ | ⟨hk, _⟩
   ·exact hP x k (.inr (.inl h))
   ·exact hP x k (.inr (.inr (.inl h)))
   ·exact hP x k (.inl h)
   ·have hk : n = n + 1 := hk
    omega
  ·show n ≤ q ∧ q < n + 2
   rcases hk with ⟨hk, _⟩ | ⟨hk, _⟩ <;> omega
def ClE (ff nf : Int → Int) (HS : Int → Int → Prop) (E : LL) (Z : Int → Int → Prop) : Prop := ∀ r, r ∈ E → ∀ x x', Stp ff nf HS r x x' → Z x' (gi r 1) → Z x (gi r 0)
theorem ClE.left {A B : LL} {Z : Int → Int → Prop} (h : ClE ff nf HS (A ++ B) Z) : ClE ff nf HS A Z := fun r hr => h r (List.mem_append_left _ hr)
theorem ClE.right {A B : LL} {Z : Int → Int → Prop} (h : ClE ff nf HS (A ++ B) Z) : ClE ff nf HS B Z := fun r hr => h r (List.mem_append_right _ hr)
theorem ClE.free {a b : Int} {Z : Int → Int → Prop} (h : ClE ff nf HS [st4 a b 0 0] Z) {x : Int} (hz : Z x b) : Z x a := h _ (List.mem_singleton.2 rfl) x x (.inl ⟨rfl, rfl⟩) hz
theorem Vz {f : List C → Int → Int → Mk} {t : Int} : ∀ (l : LL) (m : Mk), (∃ W, (Ed f t l m).E = m.E ++ W) ∧ (Ed f t l m).s = m.s := by
 intro l
 induction l with
 | nil => intro m; exact ⟨⟨[], (List.append_nil _).symm⟩, rfl⟩
 | cons r l ih =>
  intro m
  obtain ⟨⟨W, hW⟩, hs⟩ := ih ⟨(f r m.n (t + m.T.length)).n, m.E ++ ((f r m.n (t + m.T.length)).E ++ [st4 m.e (f r m.n (t + m.T.length)).s 0 0]), m.T ++ (f r m.n (t + m.T.length)).T, m.s, (f r m.n (t + m.T.length)).e⟩
  exact ⟨⟨((f r m.n (t + m.T.length)).E ++ [st4 m.e (f r m.n (t + m.T.length)).s 0 0]) ++ W, by rw [← List.append_assoc]; exact hW⟩, hs⟩
theorem Xh {f : List C → Int → Int → Mk} {t s : Int} : ∀ (l : LL) (m : Al), (∃ W, (Cr f t s l m).E = m.E ++ W) ∧ (∃ W, (Cr f t s l m).es = m.es ++ W) := by
 intro l
 induction l with
 | nil => intro m; exact ⟨⟨[], (List.append_nil _).symm⟩, ⟨[], (List.append_nil _).symm⟩⟩
 | cons r l ih =>
  intro m
  obtain ⟨⟨W, hW⟩, ⟨V, hV⟩⟩ := ih ⟨(f r m.n (t + m.T.length)).n, m.E ++ ((f r m.n (t + m.T.length)).E ++ [st4 s (f r m.n (t + m.T.length)).s 0 0]), m.T ++ (f r m.n (t + m.T.length)).T, m.es ++ [(f r m.n (t + m.T.length)).e]⟩
  exact ⟨⟨((f r m.n (t + m.T.length)).E ++ [st4 s (f r m.n (t + m.T.length)).s 0 0]) ++ W, by rw [← List.append_assoc]; exact hW⟩, ⟨[(f r m.n (t + m.T.length)).e] ++ V, by rw [← List.append_assoc]; exact hV⟩⟩
def Bk (ff nf : Int → Int) (HS : Int → Int → Prop) (m : Mk) (P : Int → Int → Prop) : Prop := ∀ Z : Int → Int → Prop, ClE ff nf HS m.E Z → ∀ x k, P x k → Z k m.e → Z x m.s
theorem Afi {f : List C → Int → Int → Mk} {t : Int} {Q : List C → Int → Int → Prop} {Z : Int → Int → Prop} : ∀ (l : LL) (m : Mk) (P : Int → Int → Prop),
  (∀ r, r ∈ l → ∀ n t', TC HT HS t' (f r n t').T → Bk ff nf HS (f r n t') (Q r)) → TC HT HS t (Ed f t l m).T → ClE ff nf HS (Ed f t l m).E Z → (∀ x k, P x k → Z k m.e → Z x m.s) →
  ∀ x k, (∃ y, P x y ∧ Gc Q l y k) → Z k (Ed f t l m).e → Z x m.s := by
 intro l
 induction l with
 | nil =>
  intro m P _ _ _ h x k ⟨y, hy, e⟩ hz
  have e : y = k := e
  subst e
  exact h x y hy hz
 | cons r l ih =>
  intro m P hq ht hc h x k ⟨y, hy, z, hQ, hch⟩ hz
  generalize hg : f r m.n (t + m.T.length) = g
  have e1 : Ed f t (r :: l) m = Ed f t l ⟨g.n, m.E ++ (g.E ++ [st4 m.e g.s 0 0]), m.T ++ g.T, m.s, g.e⟩ := by subst hg; rfl
  rw [e1] at ht hc hz
  obtain ⟨W, hW⟩ := N3 (f := f) (t := t) l ⟨g.n, m.E ++ (g.E ++ [st4 m.e g.s 0 0]), m.T ++ g.T, m.s, g.e⟩
  obtain ⟨⟨V, hV⟩, _⟩ := Vz (f := f) (t := t) l ⟨g.n, m.E ++ (g.E ++ [st4 m.e g.s 0 0]), m.T ++ g.T, m.s, g.e⟩
  have ht2 := ht
  rw [hW] at ht2
  have hc2 := hc
  rw [hV] at hc2
  have hcm : ClE ff nf HS (m.E ++ (g.E ++ [st4 m.e g.s 0 0])) Z := hc2.left
  have bk := hq r List.mem_cons_self m.n (t + m.T.length) (by rw [hg]; exact ht2.left.right)
  rw [hg] at bk
  refine ih ⟨g.n, m.E ++ (g.E ++ [st4 m.e g.s 0 0]), m.T ++ g.T, m.s, g.e⟩ (fun x k => ∃ y, P x y ∧ Q r y k) (fun r hr => hq r (List.mem_cons_of_mem _ hr)) ht hc (fun x k ⟨y, hy, hQ⟩ hz => ?_) x k ⟨z, ⟨y, hy, hQ⟩, hch⟩ hz
  exact h x y hy (hcm.right.right.free (bk Z hcm.right.left y k hQ hz))
theorem Xf {f : List C → Int → Int → Mk} {t lo : Int} {Q : List C → Int → Int → Prop} {Z : Int → Int → Prop} : ∀ (l : LL) (m : Al) (P : Int → Int → Prop),
  (∀ r, r ∈ l → ∀ n t', TC HT HS t' (f r n t').T → Bk ff nf HS (f r n t') (Q r)) → TC HT HS t (Cr f t lo l m).T → ClE ff nf HS (Cr f t lo l m).E Z → (∀ x k, P x k → (∀ b, b ∈ m.es → Z k b) → Z x lo) →
  ∀ x k, (P x k ∨ ∃ r, r ∈ l ∧ Q r x k) → (∀ b, b ∈ (Cr f t lo l m).es → Z k b) → Z x lo := by
 intro l
 induction l with
 | nil =>
  intro m P _ _ _ h x k hP hz
  rcases hP with hP | ⟨r, hr, _⟩
  ·exact h x k hP hz
  ·cases hr
 | cons r l ih =>
  intro m P hq ht hc h x k hP hz
  generalize hg : f r m.n (t + m.T.length) = g
  have e1 : Cr f t lo (r :: l) m = Cr f t lo l ⟨g.n, m.E ++ (g.E ++ [st4 lo g.s 0 0]), m.T ++ g.T, m.es ++ [g.e]⟩ := by subst hg; rfl
  rw [e1] at ht hc hz
  obtain ⟨W, hW⟩ := Q2 (f := f) (t := t) (s := lo) l ⟨g.n, m.E ++ (g.E ++ [st4 lo g.s 0 0]), m.T ++ g.T, m.es ++ [g.e]⟩
  obtain ⟨⟨V, hV⟩, _⟩ := Xh (f := f) (t := t) (s := lo) l ⟨g.n, m.E ++ (g.E ++ [st4 lo g.s 0 0]), m.T ++ g.T, m.es ++ [g.e]⟩
  have ht2 := ht
  rw [hW] at ht2
  have hc2 := hc
  rw [hV] at hc2
  have hcm : ClE ff nf HS (m.E ++ (g.E ++ [st4 lo g.s 0 0])) Z := hc2.left
  have bk := hq r List.mem_cons_self m.n (t + m.T.length) (by rw [hg]; exact ht2.left.right)
  rw [hg] at bk
  refine ih ⟨g.n, m.E ++ (g.E ++ [st4 lo g.s 0 0]), m.T ++ g.T, m.es ++ [g.e]⟩ (fun x k => P x k ∨ Q r x k) (fun r hr => hq r (List.mem_cons_of_mem _ hr)) ht hc (fun x k hP hz => ?_) x k ?_ hz
  ·rcases hP with hP | hQ
   ·exact h x k hP fun b hb => hz b (List.mem_append_left _ hb)
   ·exact hcm.right.right.free (bk Z hcm.right.left x k hQ (hz _ (List.mem_append_right _ (List.mem_singleton.2 rfl))))
  ·rcases hP with hP | ⟨q, hq', hQ⟩
   ·exact .inl (.inl hP)
   ·rcases List.mem_cons.1 hq' with rfl | hq'
    ·exact .inl (.inr hQ)
    ·exact .inr ⟨q, hq', hQ⟩
theorem Fw : ∀ (d : Nat) (a : List C) (n t : Int), POk d (gi a 0) (gr a 1) (gr a 2) → TC HT HS t (mk d (gi a 0) (gr a 1) (gr a 2) n t).T → Bk ff nf HS (mk d (gi a 0) (gr a 1) (gr a 2) n t) (PR ff nf HT d a) := by
 intro d
 induction d with
 | zero => intro a n t h; exact h.elim
 | succ d ih =>
  intro a n t h ht
  obtain ⟨h1, h7, h45, h6, h77, htl, hl, h0, hsub⟩ := h
  have hq : ∀ r, r ∈ gr a 1 → ∀ n t', TC HT HS t' (mk d (gi r 0) (gr r 1) (gr r 2) n t').T → Bk ff nf HS (mk d (gi r 0) (gr r 1) (gr r 2) n t') (PR ff nf HT d r) := fun r hr n t' => ih r n t' (hsub r hr)
  intro Z hc x k hP hz
  unfold mk at ht hc hz ⊢
  rw [PR] at hP
  by_cases e4 : gi a 0 = 4
  ·rw [if_neg (by omega), if_pos e4] at hP
   rw [if_pos e4] at ht hc hz ⊢
   cases hcc : gr a 1 with
   | nil => have := h45 (.inl e4); rw [hcc] at this; simp at this
   | cons r l =>
    rw [hcc] at ht hc hz hq hP
    dsimp only at ht hc hz ⊢
    obtain ⟨y, hy, hch⟩ := hP
    have hE := Vz (f := fun r => mk d (gi r 0) (gr r 1) (gr r 2)) (t := t) l (mk d (gi r 0) (gr r 1) (gr r 2) n t)
    obtain ⟨W, hW⟩ := N3 (f := fun r => mk d (gi r 0) (gr r 1) (gr r 2)) (t := t) l (mk d (gi r 0) (gr r 1) (gr r 2) n t)
    have ht2 := ht
    rw [hW] at ht2
    have hc2 := hc
    rw [hE.1.choose_spec] at hc2
    rw [hE.2]
    exact Afi (Q := PR ff nf HT d) l _ (PR ff nf HT d r) (fun r hr => hq r (List.mem_cons_of_mem _ hr)) ht hc (fun x k hp hz => hq r List.mem_cons_self n t ht2.left Z hc2.left x k hp hz) x k ⟨y, hy, hch⟩ hz
  rw [if_neg e4] at ht hc hz ⊢
  by_cases e5 : gi a 0 = 5
  ·rw [if_neg (by omega), if_neg (by omega), if_neg (by omega)] at hP
   rw [if_pos e5] at ht hc hz ⊢
   have hc2 : ClE ff nf HS ((Cr (fun r => mk d (gi r 0) (gr r 1) (gr r 2)) t n (gr a 1) ⟨n + 1, [], [], []⟩).E ++ (Cr (fun r => mk d (gi r 0) (gr r 1) (gr r 2)) t n (gr a 1) ⟨n + 1, [], [], []⟩).es.map (fun b => st4 b (Cr (fun r => mk d (gi r 0) (gr r 1) (gr r 2)) t n (gr a 1) ⟨n + 1, [], [], []⟩).n 0 0)) Z := hc
   refine Xf (Q := PR ff nf HT d) (gr a 1) ⟨n + 1, [], [], []⟩ (fun _ _ => False) hq ht hc2.left (fun _ _ h => h.elim) x k ?_ fun b hb => ?_
   ·rcases hP with h | h | h | h
    ·omega
    ·omega
    ·omega
    ·exact .inr h
   ·exact hc2.right (st4 b _ 0 0) (List.mem_map.2 ⟨b, hb, rfl⟩) k k (.inl ⟨rfl, rfl⟩) hz
  rw [if_neg e5] at ht hc hz ⊢
  by_cases e6 : gi a 0 = 6
  ·rw [if_neg (by omega), if_neg (by omega), if_pos e6] at hP
   rw [if_pos e6] at ht hc hz ⊢
   cases hcc : gr a 1 with
   | nil => have := h6 e6; rw [hcc] at this; simp at this
   | cons r l =>
    rw [hcc] at ht hc hz hq hP
    dsimp only at ht hc hz ⊢
    replace hP : F3 (PR ff nf HT d r) x k := hP
    have bk := hq r List.mem_cons_self (n + 1) t ht
    induction hP with
    | refl => exact hz
    | step hr _ ihs => exact hc.left.right.free (bk Z hc.left.left _ _ hr (hc.right.free (ihs hz)))
  rw [if_neg e6] at ht hc hz ⊢
  by_cases e7 : gi a 0 = 7
  ·rw [if_neg (by omega), if_neg (by omega), if_neg (by omega)] at hP
   rw [if_pos e7] at ht hc hz ⊢
   have hl1 := h77.1 e7
   have hn0 : (gr a 1).length = 0 := h0 (by omega) (by omega) (by omega)
   rcases hP with h | h | h | ⟨r, hr, _⟩
   ·omega
   ·omega
   ·obtain ⟨_, rfl, hT⟩ := h
    have := (ht 0 (by show 0 < (gr a 2).length; omega) k).2 hT
    rw [show t + ((0 : Nat) : Int) = t by omega] at this
    exact hc (st4 n (n + 1) 3 t) (List.mem_singleton.2 rfl) k k (.inr (.inr (.inr ⟨rfl, rfl, this⟩))) hz
   ·rw [List.length_eq_zero_iff.1 hn0] at hr; cases hr
  rw [if_neg e7] at ht hc hz ⊢
  have hn0 : (gr a 1).length = 0 ∨ gi a 0 = 5 := .inl (h0 e4 e5 e6)
  have go : Stp ff nf HS (st4 n (n + 1) (Gq (gi a 0)) 0) x k → Z x n := fun h => hc (st4 n (n + 1) (Gq (gi a 0)) 0) (List.mem_singleton.2 rfl) x k h hz
  by_cases e1 : gi a 0 = 1
  ·rw [if_pos e1] at hP
   exact go (.inl ⟨by rw [F6, e1]; rfl, hP.symm⟩)
  ·rw [if_neg e1, if_neg e4, if_neg e6] at hP
   rcases hP with ⟨e2, h⟩ | ⟨e3, h⟩ | h | ⟨r, hr, _⟩
   ·exact go (.inr (.inl ⟨by rw [F6, e2]; rfl, h⟩))
   ·exact go (.inr (.inr (.inl ⟨by rw [F6, e3]; rfl, h⟩)))
   ·exact absurd h.1 e7
   ·rw [List.length_eq_zero_iff.1 (h0 e4 e5 e6)] at hr; cases hr
end
structure Ctx (D B K ea bits : LL) : Prop where
 good : ∀ x, x ∈ D → Cb x
 dl : D.length ≤ 1000
 bl : B.length = D.length
 kl : K.length = D.length
 at_ : ∀ i, i < D.length → 0 ≤ gi (K.getD i []) 0 + gi (B.getD i []) 1 ∧ gi (K.getD i []) 0 + gi (B.getD i []) 1 < bits.length
 bits : bits.length ≤ 1000000
 al : ea.length ≤ 1048576
theorem Fst.ex (n : Nat) (p : Nat → Prop) : ∃ r, Fst n p r := by
 induction n with
 | zero => exact ⟨-1, .inl ⟨rfl, fun j h => by omega⟩⟩
 | succ n ih =>
  obtain ⟨r, hr⟩ := ih
  rcases hr with ⟨e, h⟩ | ⟨i, e, h1, h2, h3⟩
  ·by_cases hp : p n
   ·exact ⟨n, .inr ⟨n, rfl, by omega, hp, h⟩⟩
   ·exact ⟨-1, .inl ⟨rfl, fun j hj => by
     rcases Nat.lt_or_ge j n with g | g
     ·exact h j g
     ·rw [show j = n by omega]; exact hp⟩⟩
  ·exact ⟨r, .inr ⟨i, e, by omega, h2, h3⟩⟩
section
variable {D B K E T ea bits : LL} {n s e ek : Int} {e1 e2 et : ByteArray}
def lb (B K bits : LL) (r : Int) : Bool := decide (0 ≤ r) && (gi (bits.getD ((gi (K.getD r.toNat []) 0 + gi (B.getD r.toNat []) 1).toNat) []) 0 == (1 : Int))
theorem Abl (h : Ctx D B K ea bits) (x : List C) (hx : SmR BB x) {r : Int} (hr : Fst D.length (fun j => Bq true (D.getD j []) x) r) : ∃ b, b = lb B K bits r ∧ Tot (fun k _ _ => (lv k).Dn D B K n s e E T ek e1 e2 ea et bits (gi x 0) (gr x 1) (gr x 2)) (fun r => r = b) ∧
  Tot (fun k _ _ => ((lv k).B3 D B K n s e E T (gi x 0) (gr x 1) (gr x 2)).bind fun r2 => cond (decide (r2 ≥ (0 : Int))) (cond (decide ((0 : Int) ≤ r2)) (cond (decide (r2 < (K.length : Int))) (cond (decide ((0 : Int) ≤ r2)) (cond (decide (r2 < (B.length : Int))) (cond (decide ((0 : Int) ≤ IntKind.i64.wrap ((gi (K.getD r2.toNat []) 0) + (gi (B.getD r2.toNat []) 1)))) (cond (decide (IntKind.i64.wrap ((gi (K.getD r2.toNat []) 0) + (gi (B.getD r2.toNat []) 1)) < (bits.length : Int))) (some ((gi (bits.getD ((IntKind.i64.wrap ((gi (K.getD r2.toNat []) 0) + (gi (B.getD r2.toNat []) 1))).toNat) []) 0) == (1 : Int))) none) none) none) none) none) none) (some false)) (fun r => r = b) := by
 have key : ∀ {g : Nat → Nat → Nat → Option Int}, Tot g (Fst D.length (fun j => Bq true (D.getD j []) x)) → Tot (fun k p q => (g k p q).bind fun r2 => cond (decide (r2 ≥ (0 : Int))) (cond (decide ((0 : Int) ≤ r2)) (cond (decide (r2 < (K.length : Int))) (cond (decide ((0 : Int) ≤ r2)) (cond (decide (r2 < (B.length : Int))) (cond (decide ((0 : Int) ≤ IntKind.i64.wrap ((gi (K.getD r2.toNat []) 0) + (gi (B.getD r2.toNat []) 1)))) (cond (decide (IntKind.i64.wrap ((gi (K.getD r2.toNat []) 0) + (gi (B.getD r2.toNat []) 1)) < (bits.length : Int))) (some ((gi (bits.getD ((IntKind.i64.wrap ((gi (K.getD r2.toNat []) 0) + (gi (B.getD r2.toNat []) 1))).toNat) []) 0) == (1 : Int))) none) none) none) none) none) none) (some false)) (fun r' => r' = (decide (0 ≤ r) && (gi (bits.getD ((gi (K.getD r.toNat []) 0 + gi (B.getD r.toNat []) 1).toNat) []) 0 == (1 : Int)))) := by
  intro g hg
  refine Tot.bind hg fun r' hr' => ?_
  have hrr := hr'.uniq hr
  subst hrr
  refine Tot.cond (fun h0 => ?_) (fun h0 => Tot.ret ?_)
  ·have h0 := of_decide_eq_true h0
   obtain ⟨i, rfl, hi⟩ : ∃ i : Nat, r' = i ∧ i < D.length := by
    rcases hr with ⟨e', _⟩ | ⟨i, e', g, _⟩
    ·omega
    ·exact ⟨i, e', g⟩
   have hat := h.at_ i hi
   have hb := h.bits
   have hbl := h.bl
   have hkl := h.kl
   rw [Int.toNat_natCast, Ai (x := gi (K.getD i []) 0 + gi (B.getD i []) 1) (by omega) (by omega)]
   refine Tot.t (decide_eq_true (by omega)) (Tot.t (decide_eq_true (by omega)) (Tot.t (decide_eq_true (by omega)) (Tot.t (decide_eq_true (by omega)) (Tot.t (decide_eq_true (by omega)) (Tot.t (decide_eq_true (by omega)) (Tot.ret ?_))))))
   rw [decide_eq_true (show (0 : Int) ≤ (i : Int) by omega)]
   rfl
  ·rw [show decide (0 ≤ r') = false from h0]
   rfl
 refine ⟨lb B K bits r, rfl, ?_, key (P1 D B K n s e E T x h.good (by have := h.dl; omega) hx)⟩
 refine Dn_up _ _ _ _ _ _ _ _ _ _ _ _ _ _ _ _ _ (Tot.congr ?_ (fun _ _ _ => Dn_q ..))
 exact key (Adt D B K n s e E T x h.good (by have := h.dl; omega) hx)
def Af (ea : LL) (n1 n2 : ByteArray) : Int → Prop := Fst ea.length (fun j => gs (ea.getD j []) 0 = n1 ∧ gs (ea.getD j []) 1 = n2)
def av (ea : LL) (r : Int) : ByteArray := if r = -1 then ⟨#[]⟩ else gs (ea.getD r.toNat []) 2
def ab (ek : Int) (r : Int) : Bool := if r = -1 then false else ek == 1
theorem X1 (h : Ctx D B K ea bits) (n1 n2 : ByteArray) {r : Int} (hr : Af ea n1 n2 r) : Tot (fun k _ _ => (lv k).Ca D B K n s e E T ek e1 e2 ea et bits n1 n2) (fun x => x = (av ea r, ab ek r)) := by
 have hal := h.al
 refine Ca_up _ _ _ _ _ _ _ _ _ _ _ _ _ _ _ _ (Tot.congr ?_ (fun _ _ _ => Ca_q ..))
 refine Tot.in0 (Tot.loop (H := fun k p q v (_ : Unit) => Ca_l0 (lv k) k D B K n s e E T ek e1 e2 ea et bits n1 n2 p v) (n := ea.length) (fun i _ => ∀ j, j < i → ¬ (gs (ea.getD j []) 0 = n1 ∧ gs (ea.getD j []) 1 = n2)) (by omega) (fun _ hh => ?_) (fun i _ hi hh next => ?_) _ 0 () rfl (by omega) (fun j hj => by omega))
 ·refine Tot.step0 (fun _ _ _ => Ca_l0_q ..) ?_
  have : r = -1 := hr.uniq (.inl ⟨rfl, hh⟩)
  subst this
  exact Tot.f (decide_eq_false (by omega)) (Tot.ret rfl)
 ·refine Tot.step0 (fun _ _ _ => Ca_l0_q ..) ?_
  rw [Int.toNat_natCast]
  repeat (refine Tot.t (decide_eq_true (by omega)) ?_)
  refine Tot.cond (fun hc => Tot.ret ?_) (fun hc => next () (fun j hj => ?_))
  ·have : r = i := hr.uniq (.inr ⟨i, rfl, hi, Fx.1 hc, hh⟩)
   subst this
   unfold av ab
   rw [if_neg (by omega), if_neg (by omega), Int.toNat_natCast]
  ·rcases Nat.lt_or_ge j i with g | g
   ·exact hh j g
   ·rw [show j = i by omega]
    intro hb
    rw [Fx.2 hb] at hc
    cases hc
theorem X2 (h : Ctx D B K ea bits) (n1 n2 : ByteArray) {r : Int} (hr : Af ea n1 n2 r) : Tot (fun k _ _ => (lv k).B9 D B K n s e E T ek e1 e2 ea et bits n1 n2) (fun x => x = (av ea r, ab ek r, D, B, K, n, s, e, E, T, ek, e1, e2, ea, et, bits)) := by
 have hal := h.al
 refine B9_up _ _ _ _ _ _ _ _ _ _ _ _ _ _ _ _ (Tot.congr ?_ (fun _ _ _ => B9_q ..))
 refine Tot.in0 (Tot.loop (H := fun k p q v (_ : Unit) => B9_l0 (lv k) k D B K n s e E T ek e1 e2 ea et bits n1 n2 p v) (n := ea.length) (fun i _ => ∀ j, j < i → ¬ (gs (ea.getD j []) 0 = n1 ∧ gs (ea.getD j []) 1 = n2)) (by omega) (fun _ hh => ?_) (fun i _ hi hh next => ?_) _ 0 () rfl (by omega) (fun j hj => by omega))
 ·refine Tot.step0 (fun _ _ _ => B9_l0_q ..) ?_
  have : r = -1 := hr.uniq (.inl ⟨rfl, hh⟩)
  subst this
  exact Tot.f (decide_eq_false (by omega)) (Tot.ret rfl)
 ·refine Tot.step0 (fun _ _ _ => B9_l0_q ..) ?_
  rw [Int.toNat_natCast]
  repeat (refine Tot.t (decide_eq_true (by omega)) ?_)
  refine Tot.cond (fun hc => Tot.ret ?_) (fun hc => next () (fun j hj => ?_))
  ·have : r = i := hr.uniq (.inr ⟨i, rfl, hi, Fx.1 hc, hh⟩)
   subst this
   unfold av ab
   rw [if_neg (by omega), if_neg (by omega), Int.toNat_natCast]
  ·rcases Nat.lt_or_ge j i with g | g
   ·exact hh j g
   ·rw [show j = i by omega]
    intro hb
    rw [Fx.2 hb] at hc
    cases hc
structure HH (D B K : LL) (n s e : Int) (E T : LL) (ek : Int) (e1 e2 : ByteArray) (ea : LL) (et : ByteArray) (bits : LL) (f : List C) (b : Bool) : Prop where
 p2 : Tot (fun k _ _ => (lv k).C9 D B K n s e E T ek e1 e2 ea et bits (gi f 0) (gs f 1) (gs f 2) (gs f 3) (gr f 4) (gr f 5)) (fun r => r = b)
 p1 : Tot (fun k _ _ => (lv k).C8 D B K n s e E T ek e1 e2 ea et bits (gi f 0) (gs f 1) (gs f 2) (gs f 3) (gr f 4) (gr f 5)) (fun r => r = (b, D, B, K, n, s, e, E, T, ek, e1, e2, ea, et, bits))
 rf : Tot (fun k _ _ => (lv k).A8 D B K n s e E T (gi f 0) (gs f 1) (gs f 2) (gs f 3) (gr f 4) (gr f 5) ek e1 e2 ea et bits) (fun r => r = b)
noncomputable def Dx (ek : Int) (e1 e2 et : ByteArray) (f : List C) (bs : Nat → Bool) (pb ax : Bool) : Bool := open Classical in
 if gi f 0 = 1 then true else if gi f 0 = 2 then ek == 1 else if gi f 0 = 3 then !(ek == 1) else if gi f 0 = 4 then (ek == 1) && ((e1 == gs f 1) && ((e2 == gs f 2) && true))
 else if gi f 0 = 5 ∨ gi f 0 = 6 then ax else if gi f 0 = 7 then !(ek == 1) && (et.toList == (gs f 3).toList) else if gi f 0 = 8 then !(bs 0)
 else if gi f 0 = 9 then decide (∀ j, j < (gr f 4).length → bs j = true) else if gi f 0 = 10 then decide (∃ j, j < (gr f 4).length ∧ bs j = true) else pb
def Eo (ek : Int) (ea : LL) (f : List C) (r : Int) : Bool := if gi f 0 = 5 then ab ek r else ab ek r && ((av ea r).toList == (gs f 3).toList)
open Classical in
theorem Ti {d : Nat} (hc : Ctx D B K ea bits) {f : List C} (hf : ok (d + 1) false f) (hs : SmR BB f) {bs : Nat → Bool} (hbs : ∀ i, i < (gr f 4).length → HH D B K n s e E T ek e1 e2 ea et bits ((gr f 4).getD i []) (bs i))
  {r : Int} (hr : Af ea (gs f 1) (gs f 2) r) {rp : Int} (hrp : Fst D.length (fun j => Bq true (D.getD j []) ((gr f 5).getD 0 [])) rp) : HH D B K n s e E T ek e1 e2 ea et bits f (Dx ek e1 e2 et f bs (lb B K bits rp) (Eo ek ea f r)) := by
  obtain ⟨h1, h11, h8, h64, h910, h0, h511, h51, h9, h10⟩ := hf
  have hl4 : (gr f 4).length ≤ 1048576 := (hs.gr 4).1
  have hl5 : (gr f 5).length ≤ 1048576 := (hs.gr 5).1
  have c2 : Tot (fun k _ _ => (lv k).Cv (gr f 4) D B K n s e E T ek e1 e2 ea et bits) (fun r => r = decide (∃ j, j < (gr f 4).length ∧ bs j = false)) := by
   refine Cv_up _ _ _ _ _ _ _ _ _ _ _ _ _ _ _ (Tot.congr ?_ (fun _ _ _ => Cv_q ..))
   refine Tot.bind (R := Fst (gr f 4).length (fun j => bs j = false)) ?_ fun r hr => Tot.ret ?_
   ·refine Cg_up _ _ _ _ _ _ _ _ _ _ _ _ _ _ _ (Tot.congr ?_ (fun _ _ _ => Cg_q ..))
    refine Tot.in0 (Tot.first (H := fun k p q v => Cg_l0 (lv k) k (gr f 4) D B K n s e E T ek e1 e2 ea et bits p v) (n := (gr f 4).length) (by omega) ?_ (fun i Q hi hy hn => ?_))
    ·refine Tot.step0 (fun _ _ _ => Cg_l0_q ..) ?_
     exact Tot.f (decide_eq_false (by omega)) (Tot.ret rfl)
    ·refine Tot.step0 (fun _ _ _ => Cg_l0_q ..) ?_
     rw [Int.toNat_natCast]
     repeat (refine Tot.t (decide_eq_true (by omega)) ?_)
     refine Tot.bind (R := fun r => r = !(bs i)) ?_ fun r hr => ?_
     ·refine Dw_up _ _ _ _ _ _ _ _ _ _ _ _ _ _ _ _ _ _ _ _ (Tot.congr ?_ (fun _ _ _ => Dw_q ..))
      exact Tot.bind (hbs i hi).p2 fun r hr => Tot.ret (by rw [hr])
     ·subst hr
      exact Tot.cond (fun h => Tot.ret (hy (by simpa using h))) (fun h => hn (by simpa using h))
   ·rcases hr with ⟨rfl, hh⟩ | ⟨i, rfl, g1, g2, g3⟩
    ·exact (decide_eq_false (by omega)).trans (decide_eq_false (fun ⟨j, a, b⟩ => hh j a b)).symm
    ·exact (decide_eq_true (by omega)).trans (decide_eq_true ⟨i, g1, g2⟩).symm
  have c3 : Tot (fun k _ _ => (lv k).Cw (gr f 4) D B K n s e E T ek e1 e2 ea et bits) (fun r => r = decide (∃ j, j < (gr f 4).length ∧ bs j = true)) := by
   refine Cw_up _ _ _ _ _ _ _ _ _ _ _ _ _ _ _ (Tot.congr ?_ (fun _ _ _ => Cw_q ..))
   refine Tot.bind (R := Fst (gr f 4).length (fun j => bs j = true)) ?_ fun r hr => Tot.ret ?_
   ·refine Ch_up _ _ _ _ _ _ _ _ _ _ _ _ _ _ _ (Tot.congr ?_ (fun _ _ _ => Ch_q ..))
    refine Tot.in0 (Tot.first (H := fun k p q v => Ch_l0 (lv k) k (gr f 4) D B K n s e E T ek e1 e2 ea et bits p v) (n := (gr f 4).length) (by omega) ?_ (fun i Q hi hy hn => ?_))
    ·refine Tot.step0 (fun _ _ _ => Ch_l0_q ..) ?_
     exact Tot.f (decide_eq_false (by omega)) (Tot.ret rfl)
    ·refine Tot.step0 (fun _ _ _ => Ch_l0_q ..) ?_
     rw [Int.toNat_natCast]
     repeat (refine Tot.t (decide_eq_true (by omega)) ?_)
     refine Tot.bind (hbs i hi).p2 fun r hr => ?_
     subst hr
     exact Tot.cond (fun h => Tot.ret (hy h)) (fun h => hn (by rw [h]; simp))
   ·rcases hr with ⟨rfl, hh⟩ | ⟨i, rfl, g1, g2, g3⟩
    ·exact (decide_eq_false (by omega)).trans (decide_eq_false (fun ⟨j, a, b⟩ => hh j a b)).symm
    ·exact (decide_eq_true (by omega)).trans (decide_eq_true ⟨i, g1, g2⟩).symm
  have rl : ∀ op : Int, Tot (fun k _ _ => A8_l0 (lv k) k D B K n s e E T op (gs f 1) (gs f 2) (gs f 3) (gr f 4) (gr f 5) ek e1 e2 ea et bits k true false 0) (fun r => r = cond (op == 9) (decide (∀ j, j < (gr f 4).length → bs j = true)) (cond (op == 10) (decide (∃ j, j < (gr f 4).length ∧ bs j = true)) false)) := by
   intro op
   refine Tot.in0 (Tot.loop (H := fun k p q v (w : Bool × Bool) => A8_l0 (lv k) k D B K n s e E T op (gs f 1) (gs f 2) (gs f 3) (gr f 4) (gr f 5) ek e1 e2 ea et bits p w.1 w.2 v) (n := (gr f 4).length) (fun i w => w.1 = decide (∀ j, j < i → bs j = true) ∧ w.2 = decide (∃ j, j < i ∧ bs j = true)) (by omega) (fun w hw => ?_) (fun i w hi hw next => ?_) _ 0 (true, false) rfl (by omega) ⟨(decide_eq_true (fun j hj => by omega)).symm, (decide_eq_false (fun ⟨j, hj, _⟩ => by omega)).symm⟩)
   ·refine Tot.step0 (fun _ _ _ => A8_l0_q ..) ?_
    obtain ⟨w1, w2⟩ := w
    obtain ⟨hw1, hw2⟩ := hw
    simp only at hw1 hw2
    rw [← hw1, ← hw2]
    refine Tot.f (decide_eq_false (by omega)) (Tot.cond (fun g9 => ?_) (fun g9 => ?_))
    ·rw [g9]
     refine Tot.cond (fun g => Tot.ret (by have g : w1 = true := g; rw [g]; rfl)) (fun g => ?_)
     have g : w1 = false := g
     have : op = 9 := by simpa using g9
     subst this
     exact Tot.f (by rfl) (Tot.ret (by rw [g]; rfl))
    ·rw [g9]
     exact Tot.cond (fun g => Tot.ret (by rw [g]; rfl)) (fun g => Tot.ret (by rw [g]; rfl))
   ·refine Tot.step0 (fun _ _ _ => A8_l0_q ..) ?_
    obtain ⟨w1, w2⟩ := w
    obtain ⟨hw1, hw2⟩ := hw
    simp only at hw1 hw2
    rw [Int.toNat_natCast]
    repeat (refine Tot.t (decide_eq_true (by omega)) ?_)
    refine Tot.bind (hbs i hi).rf fun r hr => ?_
    subst hr
    have e1 : (w1 && bs i) = decide (∀ j, j < i + 1 → bs j = true) := by
     rw [hw1]
     rw [Bool.eq_iff_iff, Bool.and_eq_true, decide_eq_true_eq, decide_eq_true_eq]
     exact ⟨fun h j hj => by
      rcases Nat.lt_or_ge j i with g | g
      ·exact h.1 j g
      ·rw [show j = i by omega]; exact h.2, fun h => ⟨fun j hj => h j (by omega), h i (by omega)⟩⟩
    have e2 : (w2 || bs i) = decide (∃ j, j < i + 1 ∧ bs j = true) := by
     rw [hw2]
     rw [Bool.eq_iff_iff, Bool.or_eq_true, decide_eq_true_eq, decide_eq_true_eq]
     exact ⟨fun h => by
      rcases h with ⟨j, a, b⟩ | h
      ·exact ⟨j, by omega, b⟩
      ·exact ⟨i, by omega, h⟩, fun ⟨j, a, b⟩ => by
      rcases Nat.lt_or_ge j i with g | g
      ·exact .inl ⟨j, g, b⟩
      ·rw [show j = i by omega] at b; exact .inr b⟩
    have nx := next (w1 && bs i, w2 || bs i) ⟨e1, e2⟩
    refine Tot.cond (fun g1 => Tot.cond (fun g2 => ?_) (fun g2 => ?_)) (fun g1 => Tot.cond (fun g2 => ?_) (fun g2 => ?_)) <;> (cases w1 <;> cases w2 <;> first | (cases g1; done) | (cases g2; done) | (simpa using nx))
  have ra : ∀ {r : Int}, Af ea (gs f 1) (gs f 2) r → ∀ op : Int, 5 ≤ op → Tot (fun k _ _ => A8_l1 (lv k) k D B K n s e E T op (gs f 1) (gs f 2) (gs f 3) (gr f 4) (gr f 5) ek e1 e2 ea et bits k 0) (fun x => x = if r = -1 then op == 2 else cond (op == 5) true ((av ea r).toList == (gs f 3).toList)) := by
   intro r hr op hop
   have hal := hc.al
   refine Tot.in0 (Tot.loop (H := fun k p q v (_ : Unit) => A8_l1 (lv k) k D B K n s e E T op (gs f 1) (gs f 2) (gs f 3) (gr f 4) (gr f 5) ek e1 e2 ea et bits p v) (n := ea.length) (fun i _ => ∀ j, j < i → ¬ (gs (ea.getD j []) 0 = gs f 1 ∧ gs (ea.getD j []) 1 = gs f 2)) (by omega) (fun _ hh => ?_) (fun i _ hi hh next => ?_) _ 0 () rfl (by omega) (fun j hj => by omega))
   ·refine Tot.step0 (fun _ _ _ => A8_l1_q ..) ?_
    have : r = -1 := hr.uniq (.inl ⟨rfl, hh⟩)
    rw [if_pos this]
    exact Tot.f (decide_eq_false (by omega)) (Tot.ret rfl)
   ·refine Tot.step0 (fun _ _ _ => A8_l1_q ..) ?_
    rw [Int.toNat_natCast]
    repeat (refine Tot.t (decide_eq_true (by omega)) ?_)
    refine Tot.cond (fun hcc => ?_) (fun hcc => next () (fun j hj => ?_))
    ·have : r = i := hr.uniq (.inr ⟨i, rfl, hi, Fx.1 hcc, hh⟩)
     subst this
     unfold av
     rw [if_neg (by omega), if_neg (by omega), Int.toNat_natCast]
     refine Tot.cond (fun g => Tot.ret (by rw [g]; rfl)) (fun g => ?_)
     repeat (refine Tot.t (decide_eq_true (by omega)) ?_)
     exact Tot.ret (by rw [g]; rfl)
    ·rcases Nat.lt_or_ge j i with g | g
     ·exact hh j g
     ·rw [show j = i by omega]
      intro hb
      rw [Fx.2 hb] at hcc
      cases hcc
  have q2 : ∀ {Q}, Tot _ Q → Tot (fun k _ _ => (lv k).C9 D B K n s e E T ek e1 e2 ea et bits (gi f 0) (gs f 1) (gs f 2) (gs f 3) (gr f 4) (gr f 5)) Q := fun h => C9_up _ _ _ _ _ _ _ _ _ _ _ _ _ _ _ _ _ _ _ _ (Tot.congr h (fun _ _ _ => C9_q ..))
  have q1 : ∀ {Q}, Tot _ Q → Tot (fun k _ _ => (lv k).C8 D B K n s e E T ek e1 e2 ea et bits (gi f 0) (gs f 1) (gs f 2) (gs f 3) (gr f 4) (gr f 5)) Q := fun h => C8_up _ _ _ _ _ _ _ _ _ _ _ _ _ _ _ _ _ _ _ _ (Tot.congr h (fun _ _ _ => C8_q ..))
  have qr : ∀ {Q}, Tot _ Q → Tot (fun k _ _ => (lv k).A8 D B K n s e E T (gi f 0) (gs f 1) (gs f 2) (gs f 3) (gr f 4) (gr f 5) ek e1 e2 ea et bits) Q := fun h => A8_up _ _ _ _ _ _ _ _ _ _ _ _ _ _ _ _ _ _ _ _ (Tot.congr h (fun _ _ _ => A8_q ..))
  have hop : gi f 0 = 1 ∨ gi f 0 = 2 ∨ gi f 0 = 3 ∨ gi f 0 = 4 ∨ gi f 0 = 5 ∨ gi f 0 = 6 ∨ gi f 0 = 7 ∨ gi f 0 = 8 ∨ gi f 0 = 9 ∨ gi f 0 = 10 ∨ gi f 0 = 11 := by omega
  have at2 := X1 (n := n) (s := s) (e := e) (E := E) (T := T) (ek := ek) (e1 := e1) (e2 := e2) (et := et) hc _ _ hr
  have at1 := X2 (n := n) (s := s) (e := e) (E := E) (T := T) (ek := ek) (e1 := e1) (e2 := e2) (et := et) hc _ _ hr
  rcases hop with e_ | e_ | e_ | e_ | e_ | e_ | e_ | e_ | e_ | e_ | e_
  ·rw [show Dx ek e1 e2 et f bs (lb B K bits rp) (Eo ek ea f r) = (true) from by unfold Dx Eo; rw [e_]; rfl]
   refine ⟨q2 ?_, q1 ?_, qr ?_⟩ <;> rw [e_]
   ·repeat (first | refine Tot.t (by rfl) ?_ | refine Tot.f (by rfl) ?_)
    exact Tot.ret rfl
   ·repeat (first | refine Tot.t (by rfl) ?_ | refine Tot.f (by rfl) ?_)
    exact Tot.ret rfl
   ·repeat (first | refine Tot.t (by rfl) ?_ | refine Tot.f (by rfl) ?_)
    exact Tot.ret rfl
  ·rw [show Dx ek e1 e2 et f bs (lb B K bits rp) (Eo ek ea f r) = (ek == 1) from by unfold Dx Eo; rw [e_]; rfl]
   refine ⟨q2 ?_, q1 ?_, qr ?_⟩ <;> rw [e_]
   ·repeat (first | refine Tot.t (by rfl) ?_ | refine Tot.f (by rfl) ?_)
    exact Tot.ret rfl
   ·repeat (first | refine Tot.t (by rfl) ?_ | refine Tot.f (by rfl) ?_)
    exact Tot.ret rfl
   ·repeat (first | refine Tot.t (by rfl) ?_ | refine Tot.f (by rfl) ?_)
    refine Tot.cond (fun g => Tot.ret ?_) (fun g => ?_)
    ·have g : (ek == 1) = false := by simpa using g
     exact g.symm
    ·have g : (ek == 1) = true := by simpa using g
     rw [g]
     repeat (first | refine Tot.t (by rfl) ?_ | refine Tot.f (by rfl) ?_)
     refine Tot.in0 (g := fun k p_ q_ => A8_l1 (lv k) k D B K n s e E T 2 (gs f 1) (gs f 2) (gs f 3) (gr f 4) (gr f 5) ek e1 e2 ea et bits p_ 0) ?_
     refine Tot.step0 (fun _ _ _ => A8_l1_q ..) ?_
     exact Tot.cond (fun _ => Tot.f (by rfl) (Tot.ret rfl)) (fun _ => Tot.ret rfl)
  ·rw [show Dx ek e1 e2 et f bs (lb B K bits rp) (Eo ek ea f r) = (!(ek == 1)) from by unfold Dx Eo; rw [e_]; rfl]
   refine ⟨q2 ?_, q1 ?_, qr ?_⟩ <;> rw [e_]
   ·repeat (first | refine Tot.t (by rfl) ?_ | refine Tot.f (by rfl) ?_)
    exact Tot.ret rfl
   ·repeat (first | refine Tot.t (by rfl) ?_ | refine Tot.f (by rfl) ?_)
    exact Tot.ret rfl
   ·repeat (first | refine Tot.t (by rfl) ?_ | refine Tot.f (by rfl) ?_)
    refine Tot.cond (fun g => ?_) (fun g => Tot.ret g.symm)
    rw [g]
    repeat (first | refine Tot.t (by rfl) ?_ | refine Tot.f (by rfl) ?_)
    exact Tot.ret rfl
  ·rw [show Dx ek e1 e2 et f bs (lb B K bits rp) (Eo ek ea f r) = ((ek == 1) && ((e1 == gs f 1) && ((e2 == gs f 2) && true))) from by unfold Dx Eo; rw [e_]; rfl]
   refine ⟨q2 ?_, q1 ?_, qr ?_⟩ <;> rw [e_]
   ·repeat (first | refine Tot.t (by rfl) ?_ | refine Tot.f (by rfl) ?_)
    exact Tot.cond (fun g => Tot.ret (by rw [g]; rfl)) (fun g => Tot.ret (by rw [g]; rfl))
   ·repeat (first | refine Tot.t (by rfl) ?_ | refine Tot.f (by rfl) ?_)
    exact Tot.cond (fun g => Tot.ret (by rw [g]; rfl)) (fun g => Tot.ret (by rw [g]; rfl))
   ·repeat (first | refine Tot.t (by rfl) ?_ | refine Tot.f (by rfl) ?_)
    refine Tot.cond (fun g => Tot.ret ?_) (fun g => ?_)
    ·have g : (ek == 1) = false := by simpa using g
     rw [g]; rfl
    ·have g : (ek == 1) = true := by simpa using g
     rw [g]
     repeat (first | refine Tot.t (by rfl) ?_ | refine Tot.f (by rfl) ?_)
     exact Tot.ret rfl
  ·rw [show Dx ek e1 e2 et f bs (lb B K bits rp) (Eo ek ea f r) = (ab ek r) from by unfold Dx Eo; rw [e_]; rfl]
   refine ⟨q2 ?_, q1 ?_, qr ?_⟩ <;> rw [e_]
   ·repeat (first | refine Tot.t (by rfl) ?_ | refine Tot.f (by rfl) ?_)
    exact Tot.bind at2 fun x hx => Tot.ret (by rw [hx])
   ·repeat (first | refine Tot.t (by rfl) ?_ | refine Tot.f (by rfl) ?_)
    exact Tot.bind at1 fun x hx => Tot.ret (by rw [hx])
   ·repeat (first | refine Tot.t (by rfl) ?_ | refine Tot.f (by rfl) ?_)
    refine Tot.cond (fun g => Tot.ret ?_) (fun g => ?_)
    ·have g : (ek == 1) = false := by simpa using g
     unfold ab
     split
     ·rfl
     ·exact g.symm
    ·have g : (ek == 1) = true := by simpa using g
     repeat (first | refine Tot.t (by rfl) ?_ | refine Tot.f (by rfl) ?_)
     refine (ra hr 5 (by omega)).mono fun x hx => ?_
     rw [hx]
     unfold ab
     rw [g]
     split <;> rfl
  ·rw [show Dx ek e1 e2 et f bs (lb B K bits rp) (Eo ek ea f r) = (ab ek r && ((av ea r).toList == (gs f 3).toList)) from by unfold Dx Eo; rw [e_]; rfl]
   refine ⟨q2 ?_, q1 ?_, qr ?_⟩ <;> rw [e_]
   ·repeat (first | refine Tot.t (by rfl) ?_ | refine Tot.f (by rfl) ?_)
    refine Tot.bind at2 fun x hx => ?_
    subst hx
    exact Tot.cond (fun g => Tot.ret (by have g : ab ek r = true := g; rw [g]; rfl)) (fun g => Tot.ret (by have g : ab ek r = false := g; rw [g]; rfl))
   ·repeat (first | refine Tot.t (by rfl) ?_ | refine Tot.f (by rfl) ?_)
    refine Tot.bind at1 fun x hx => ?_
    subst hx
    exact Tot.cond (fun g => Tot.ret (by have g : ab ek r = true := g; rw [g]; rfl)) (fun g => Tot.ret (by have g : ab ek r = false := g; rw [g]; rfl))
   ·repeat (first | refine Tot.t (by rfl) ?_ | refine Tot.f (by rfl) ?_)
    refine Tot.cond (fun g => Tot.ret ?_) (fun g => ?_)
    ·have g : (ek == 1) = false := by simpa using g
     unfold ab
     rw [g]
     split <;> rfl
    ·have g : (ek == 1) = true := by simpa using g
     repeat (first | refine Tot.t (by rfl) ?_ | refine Tot.f (by rfl) ?_)
     refine (ra hr 6 (by omega)).mono fun x hx => ?_
     rw [hx]
     unfold ab
     rw [g]
     split <;> rfl
  ·rw [show Dx ek e1 e2 et f bs (lb B K bits rp) (Eo ek ea f r) = (!(ek == 1) && (et.toList == (gs f 3).toList)) from by unfold Dx Eo; rw [e_]; rfl]
   refine ⟨q2 ?_, q1 ?_, qr ?_⟩ <;> rw [e_]
   ·repeat (first | refine Tot.t (by rfl) ?_ | refine Tot.f (by rfl) ?_)
    exact Tot.cond (fun g => Tot.ret (by rw [g]; rfl)) (fun g => Tot.ret (by rw [g]; rfl))
   ·repeat (first | refine Tot.t (by rfl) ?_ | refine Tot.f (by rfl) ?_)
    exact Tot.cond (fun g => Tot.ret (by rw [g]; rfl)) (fun g => Tot.ret (by rw [g]; rfl))
   ·repeat (first | refine Tot.t (by rfl) ?_ | refine Tot.f (by rfl) ?_)
    refine Tot.cond (fun g => ?_) (fun g => Tot.ret (by rw [g]; rfl))
    rw [g]
    repeat (first | refine Tot.t (by rfl) ?_ | refine Tot.f (by rfl) ?_)
    exact Tot.ret rfl
  ·have hl := h8 e_
   have e8 : (decide (∃ j, j < (gr f 4).length ∧ bs j = false) == ((8 : Int) == 8)) = !(bs 0) := by
    have : (∃ j, j < (gr f 4).length ∧ bs j = false) ↔ bs 0 = false := ⟨fun ⟨j, a, b⟩ => by rw [show j = 0 by omega] at b; exact b, fun h => ⟨0, by omega, h⟩⟩
    rw [show ((8 : Int) == 8) = true from rfl]
    cases hb : bs 0
    ·rw [decide_eq_true (this.2 hb)]; rfl
    ·rw [decide_eq_false (fun h => by rw [this.1 h] at hb; cases hb)]; rfl
   rw [show Dx ek e1 e2 et f bs (lb B K bits rp) (Eo ek ea f r) = (!(bs 0)) from by unfold Dx Eo; rw [e_]; rfl]
   refine ⟨q2 ?_, q1 ?_, qr ?_⟩ <;> rw [e_]
   ·repeat (first | refine Tot.t (by rfl) ?_ | refine Tot.f (by rfl) ?_)
    exact Tot.bind c2 fun x hx => Tot.ret (by rw [hx]; exact e8)
   ·repeat (first | refine Tot.t (by rfl) ?_ | refine Tot.f (by rfl) ?_)
    exact Tot.bind c2 fun x hx => Tot.ret (by rw [hx, e8])
   ·repeat (first | refine Tot.t (by rfl) ?_ | refine Tot.f (by rfl) ?_)
    refine Tot.t (decide_eq_true (by omega)) ?_
    exact Tot.bind (hbs 0 (by omega)).rf fun x hx => Tot.ret (by rw [hx])
  ·have e9 : (decide (∃ j, j < (gr f 4).length ∧ bs j = false) == ((9 : Int) == 8)) = decide (∀ j, j < (gr f 4).length → bs j = true) := by
    rw [show ((9 : Int) == 8) = false from rfl]
    by_cases hb : ∃ j, j < (gr f 4).length ∧ bs j = false
    ·rw [decide_eq_true hb]
     obtain ⟨j, a, b⟩ := hb
     rw [decide_eq_false (fun h => by rw [h j a] at b; cases b)]
     rfl
    ·rw [decide_eq_false hb, decide_eq_true (fun j hj => by
      cases hbj : bs j
      ·exact absurd ⟨j, hj, hbj⟩ hb
      ·rfl)]
     rfl
   rw [show Dx ek e1 e2 et f bs (lb B K bits rp) (Eo ek ea f r) = (decide (∀ j, j < (gr f 4).length → bs j = true)) from by unfold Dx Eo; rw [e_]; rfl]
   refine ⟨q2 ?_, q1 ?_, qr ?_⟩ <;> rw [e_]
   ·repeat (first | refine Tot.t (by rfl) ?_ | refine Tot.f (by rfl) ?_)
    exact Tot.bind c2 fun x hx => Tot.ret (by rw [hx]; exact e9)
   ·repeat (first | refine Tot.t (by rfl) ?_ | refine Tot.f (by rfl) ?_)
    exact Tot.bind c2 fun x hx => Tot.ret (by rw [hx, e9])
   ·repeat (first | refine Tot.t (by rfl) ?_ | refine Tot.f (by rfl) ?_)
    exact (rl 9).mono fun x hx => hx
  ·rw [show Dx ek e1 e2 et f bs (lb B K bits rp) (Eo ek ea f r) = (decide (∃ j, j < (gr f 4).length ∧ bs j = true)) from by unfold Dx Eo; rw [e_]; rfl]
   refine ⟨q2 ?_, q1 ?_, qr ?_⟩ <;> rw [e_]
   ·repeat (first | refine Tot.t (by rfl) ?_ | refine Tot.f (by rfl) ?_)
    exact Tot.bind c3 fun x hx => Tot.ret hx
   ·repeat (first | refine Tot.t (by rfl) ?_ | refine Tot.f (by rfl) ?_)
    exact Tot.bind c3 fun x hx => Tot.ret (by rw [hx])
   ·repeat (first | refine Tot.t (by rfl) ?_ | refine Tot.f (by rfl) ?_)
    exact (rl 10).mono fun x hx => hx
  ·have hl := h511.1 e_
   obtain ⟨b, hb0, hb1, hb2⟩ := Abl (n := n) (s := s) (e := e) (E := E) (T := T) (ek := ek) (e1 := e1) (e2 := e2) (et := et) hc ((gr f 5).getD 0 []) ((hs.gr 5).get 0) hrp
   rw [show Dx ek e1 e2 et f bs (lb B K bits rp) (Eo ek ea f r) = b from by unfold Dx; rw [e_]; exact hb0.symm]
   have c5 : Tot (fun k _ _ => (lv k).Cx (gr f 5) D B K n s e E T ek e1 e2 ea et bits) (fun r => r = b) := by
    refine Cx_up _ _ _ _ _ _ _ _ _ _ _ _ _ _ _ (Tot.congr ?_ (fun _ _ _ => Cx_q ..))
    refine Tot.bind (R := Fst (gr f 5).length (fun j => b = true)) ?_ fun r hr => Tot.ret ?_
    ·refine Ci_up _ _ _ _ _ _ _ _ _ _ _ _ _ _ _ (Tot.congr ?_ (fun _ _ _ => Ci_q ..))
     refine Tot.in0 (Tot.first (H := fun k p q v => Ci_l0 (lv k) k (gr f 5) D B K n s e E T ek e1 e2 ea et bits p v) (n := (gr f 5).length) (by omega) ?_ (fun i Q hi hy hn => ?_))
     ·refine Tot.step0 (fun _ _ _ => Ci_l0_q ..) ?_
      exact Tot.f (decide_eq_false (by omega)) (Tot.ret rfl)
     ·refine Tot.step0 (fun _ _ _ => Ci_l0_q ..) ?_
      rw [Int.toNat_natCast]
      repeat (refine Tot.t (decide_eq_true (by omega)) ?_)
      obtain rfl : i = 0 := by omega
      refine Tot.bind hb1 fun x hx => ?_
      subst hx
      exact Tot.cond (fun h => Tot.ret (hy h)) (fun h => hn (by rw [h]; simp))
    ·rcases hr with ⟨rfl, hh⟩ | ⟨i, rfl, g1, g2, g3⟩
     ·have := hh 0 (by omega)
      rw [decide_eq_false (by omega)]
      cases b
      ·rfl
      ·exact absurd rfl this
     ·rw [g2]; exact decide_eq_true (by omega)
   refine ⟨q2 ?_, q1 ?_, qr ?_⟩ <;> rw [e_]
   ·repeat (first | refine Tot.t (by rfl) ?_ | refine Tot.f (by rfl) ?_)
    exact Tot.bind c5 fun x hx => Tot.ret hx
   ·repeat (first | refine Tot.t (by rfl) ?_ | refine Tot.f (by rfl) ?_)
    exact Tot.bind c5 fun x hx => Tot.ret (by rw [hx])
   ·repeat (first | refine Tot.t (by rfl) ?_ | refine Tot.f (by rfl) ?_)
    exact Tot.t (decide_eq_true (by omega)) hb2
theorem H1 : ∀ d, d ≤ 16 → Ctx D B K ea bits → ∀ (f : List C), ok d false f → SmR BB f → ∃ b, HH D B K n s e E T ek e1 e2 ea et bits f b := by
 intro d
 induction d with
 | zero => intro _ _ f h; exact h.elim
 | succ d ih =>
  intro hd hc f hf hs
  have ih := ih (by omega) hc
  obtain ⟨bs, hbs⟩ : ∃ bs : Nat → Bool, ∀ i, i < (gr f 4).length → HH D B K n s e E T ek e1 e2 ea et bits ((gr f 4).getD i []) (bs i) := by
   have : ∀ i, ∃ b, i < (gr f 4).length → HH D B K n s e E T ek e1 e2 ea et bits ((gr f 4).getD i []) b := fun i => by
    by_cases hi : i < (gr f 4).length
    ·obtain ⟨b, hb⟩ := ih _ (hf.2.2.2.2.2.2.2.2.1 i hi) ((hs.gr 4).get i)
     exact ⟨b, fun _ => hb⟩
    ·exact ⟨false, fun h => absurd h hi⟩
   exact Classical.axiomOfChoice this
  obtain ⟨r, hr⟩ := Fst.ex ea.length (fun j => gs (ea.getD j []) 0 = gs f 1 ∧ gs (ea.getD j []) 1 = gs f 2)
  obtain ⟨rp, hrp⟩ := Fst.ex D.length (fun j => Bq true (D.getD j []) ((gr f 5).getD 0 []))
  exact ⟨_, Ti hc hf hs hbs hr hrp⟩
end
theorem Ym : Try.prog.bytesOf 4 ≤ 1024 := of_decide_eq_true (by kernel_rfl)
theorem Rx : Try.prog.bytesOf 5 ≤ 1024 := of_decide_eq_true (by kernel_rfl)
structure OkF (f : List C) : Prop where
 ok : ok 16 false f
 sm : SmR BB f
theorem OkF.nf {f : List C} (h : OkF f) : OkF (nf f) := ⟨h.ok, fun c hc => by
 have h1 := h.ok.1
 have h2 := h.ok.2.1
 simp only [Go.Vm.T.nf, List.mem_cons, List.not_mem_nil, or_false] at hc
 rcases hc with rfl | rfl | rfl | rfl | rfl | rfl
 ·exact .int _ _ (Wr (by omega) (by omega))
 ·exact .str _ (h.sm.gs 1)
 ·exact .str _ (h.sm.gs 2)
 ·exact .str _ (h.sm.gs 3)
 ·exact .row _ _ (h.sm.gr 4).1 (h.sm.gr 4).2
 ·exact .row _ _ (h.sm.gr 5).1 (h.sm.gr 5).2⟩
theorem Vy {f : List C → Int → Int → Mk} {p : List C → Prop} {t : Int} : ∀ {l : LL} {m : Mk}, (∀ r, r ∈ l → ∀ n t x, x ∈ (f r n t).T → p x) → (∀ x, x ∈ m.T → p x) → ∀ x, x ∈ (Ed f t l m).T → p x := by
 intro l
 induction l with
 | nil => intro m _ h; exact h
 | cons r l ih =>
  intro m hf hm
  refine ih (fun r hr => hf r (List.mem_cons_of_mem _ hr)) (fun x hx => ?_)
  rcases List.mem_append.1 hx with h | h
  ·exact hm x h
  ·exact hf r List.mem_cons_self _ _ x h
theorem Q1 {f : List C → Int → Int → Mk} {p : List C → Prop} {t s : Int} : ∀ {l : LL} {m : Al}, (∀ r, r ∈ l → ∀ n t x, x ∈ (f r n t).T → p x) → (∀ x, x ∈ m.T → p x) → ∀ x, x ∈ (Cr f t s l m).T → p x := by
 intro l
 induction l with
 | nil => intro m _ h; exact h
 | cons r l ih =>
  intro m hf hm
  refine ih (fun r hr => hf r (List.mem_cons_of_mem _ hr)) (fun x hx => ?_)
  rcases List.mem_append.1 hx with h | h
  ·exact hm x h
  ·exact hf r List.mem_cons_self _ _ x h
theorem Ab3 : ∀ d, d ≤ 16 → ∀ (a : List C), ok d true a → SmR BB a → ∀ (n t : Int) x, x ∈ (mk d (gi a 0) (gr a 1) (gr a 2) n t).T → OkF x := by
 intro d
 induction d with
 | zero => intro _ a h; exact h.elim
 | succ d ih =>
  intro hd a ha hs n t x hx
  obtain ⟨_, _, _, _, _, _, _, _, h9, h10⟩ := ha
  have hsub : ∀ r, r ∈ gr a 1 → ∀ n t x, x ∈ (mk d (gi r 0) (gr r 1) (gr r 2) n t).T → OkF x := fun r hr n t => by
   obtain ⟨i, hi, rfl⟩ := Fe hr
   exact ih (by omega) _ (h9 i hi) ((hs.gr 1).get i) n t
  have htest : ∀ x, x ∈ gr a 2 → OkF x := fun x hx => by
   obtain ⟨i, hi, rfl⟩ := Fe hx
   exact ⟨Px (by omega) (h10 i hi), (hs.gr 2).get i⟩
  unfold mk at hx
  split at hx
  ·split at hx
   ·cases hx
   ·rename_i r l hrl
    exact Vy (fun r hr => hsub r (by rw [hrl]; exact List.mem_cons_of_mem _ hr)) (hsub r (by rw [hrl]; exact List.mem_cons_self) _ _) x hx
  ·split at hx
   ·exact Q1 hsub (fun x hx => by cases hx) x hx
   ·split at hx
    ·split at hx
     ·cases hx
     ·rename_i r l hrl
      exact hsub r (by rw [hrl]; exact List.mem_cons_self) _ _ x hx
    ·split at hx
     ·exact htest x hx
     ·cases hx
theorem Pq {p : List C} (h : Cb p) : ∀ x, x ∈ (A4 p).T.map nf → OkF x := fun x hx => by
 obtain ⟨y, hy, rfl⟩ := List.mem_map.1 hx
 exact (Ab3 16 (Nat.le_refl _) p h.ok h.sm 0 0 y hy).nf
def fl : Nat → Bool → List C → LL
 | 0, _, _ => []
 | d + 1, true, a => (gr a 1).flatMap (fl d true) ++ (gr a 2).flatMap (fl d false)
 | d + 1, false, a => [nf a] ++ (gr a 4).flatMap (fl d false) ++ (gr a 5).flatMap (fl d true)
theorem La {D : LL} (hg : ∀ x, x ∈ D → Cb x) {i : Nat} (hi : i < D.length) : Be (D.take i) + nst (D.getD i []) ≤ Be D := by
 have e : D = D.take (i + 1) ++ D.drop (i + 1) := (List.take_append_drop _ _).symm
 have h1 : Be D = Be (D.take (i + 1)) + Be (D.drop (i + 1)) := by rw [← I8, ← e]
 have h2 := (F7 (l := D.drop (i + 1)) fun x hx => hg x (List.mem_of_mem_drop hx)).1
 rw [G7 hi, I8] at h1
 have h3 : Be [D.getD i []] = nst (D.getD i []) := by simp [Be]
 omega
theorem Zm (l : LL) (hl : l.length ≤ 1048576) (h3 : ∀ i, (gr (l.getD i []) 3).length ≤ 1048576) : Tot (fun k _ _ => (lv k).Bj l) (fun _ => True) := by
 refine Bj_up _ (Tot.congr ?_ (fun _ _ _ => Bj_q ..))
 refine Tot.in0 (Tot.loop (H := fun k p q v w => Bj_l0 (lv k) k l p w v) (n := l.length) (fun i _ => True) (by omega) (fun w _ => ?_) (fun i w hi _ next => ?_) _ 0 _ rfl (by omega) trivial)
 ·refine Tot.step0 (fun _ _ _ => Bj_l0_q ..) ?_
  exact Tot.f (decide_eq_false (by omega)) (Tot.ret trivial)
 ·have hli : (gr (l.getD i []) 3).length ≤ 1048576 := h3 i
  refine Tot.step0 (fun _ _ _ => Bj_l0_q ..) ?_
  rw [Int.toNat_natCast]
  refine Tot.t (decide_eq_true (by omega)) (Tot.cond (fun _ => ?_) (fun _ => Tot.ret trivial))
  repeat (refine Tot.t (decide_eq_true (by omega)) ?_)
  refine Tot.cond (fun _ => Tot.ret trivial) (fun _ => ?_)
  repeat (refine Tot.t (decide_eq_true (by omega)) ?_)
  refine Tot.cond (fun _ => Tot.ret trivial) (fun _ => ?_)
  repeat (refine Tot.t (decide_eq_true (by omega)) ?_)
  refine Tot.cond (fun _ => Tot.ret trivial) (fun _ => ?_)
  generalize IntKind.i64.wrap (w + ((gr (l.getD i []) 3).length : Int)) = w'
  refine Tot.in1 (Tot.loop (H := fun k p q v (_ : Unit) => Bj_l1 (lv k) k l p q w' (i : Int) v) (n := (gr (l.getD i []) 3).length) (fun i _ => True) (by omega) (fun _ _ => ?_) (fun j _ hj _ nx => ?_) _ 0 () rfl (by omega) trivial)
  ·refine Tot.step1 (fun _ _ _ => Bj_l1_q ..) ?_
   rw [Int.toNat_natCast]
   repeat (refine Tot.t (decide_eq_true (by omega)) ?_)
   exact Tot.f (decide_eq_false (by omega)) (next _ trivial)
  ·refine Tot.step1 (fun _ _ _ => Bj_l1_q ..) ?_
   rw [Int.toNat_natCast, Int.toNat_natCast]
   repeat (refine Tot.t (decide_eq_true (by omega)) ?_)
   refine Tot.cond (fun _ => ?_) (fun _ => next _ trivial)
   repeat (refine Tot.t (decide_eq_true (by omega)) ?_)
   refine Tot.cond (fun _ => Tot.ret trivial) (fun _ => ?_)
   repeat (refine Tot.t (decide_eq_true (by omega)) ?_)
   refine Tot.cond (fun _ => Tot.ret trivial) (fun _ => ?_)
   repeat (refine Tot.t (decide_eq_true (by omega)) ?_)
   exact Tot.cond (fun _ => Tot.ret trivial) (fun _ => nx () trivial)
theorem Se {p ea bits : LL} {q : List C} (h : Cb q) (hb : (bits.length : Int) = Be (DD q)) (hl : ea.length ≤ 1048576) : Ctx (DD q) ((DD q).map C7) (Ct 0 (DD q)) ea bits := by
 have hg := h.ded.good
 have hlen : (DD q).length ≤ 63 := Nat.le_trans h.ded.len h.len
 have hs := F7 hg
 refine ⟨hg, by omega, by simp, M3 _ _, fun i hi => ?_, by omega, hl⟩
 have hgi := hg _ (Eb (d := []) hi)
 have h1 := Jo 16 _ _ _ 0 0 hgi.pok
 have h2 := La hg hi
 have h3 := (F7 (Ix hg i)).1
 have e1 : ((DD q).map C7).getD i [] = C7 ((DD q).getD i []) := by simp [List.getD_eq_getElem?_getD, hi]
 rw [M2 _ _ _ hi, e1, Int.zero_add, hb]
 have h4 := h1.s0
 have h5 := h1.s1
 show 0 ≤ Be ((DD q).take i) + (A4 ((DD q).getD i [])).s ∧ Be ((DD q).take i) + (A4 ((DD q).getD i [])).s < _
 unfold nst at h2
 unfold A4 at h2 ⊢
 omega
def bt (out : LL) (q : Int) : Bool := gb (out.getD q.toNat []) 0
def BOk (N : Int) (out : LL) : Prop := (out.length : Int) = N ∧ ∀ r, r ∈ out → ∃ b, r = [C.bool b]
end Go.Vm.T
