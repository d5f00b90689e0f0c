/- The plain law. -/
import Derived.Test.YtkdlhnmidbnpkaaVmMore
set_option linter.unusedVariables false
set_option linter.unusedSimpArgs false
namespace Go.Vm.T
open Go Go.Vm Go.Proofs
attribute [local irreducible] lv Av_b Av_l0 Av_l1 Av_l2 Dt_b Br_b Br_l0 Br_l1 C2_b Ah_b Ah_l0 Ah_l1 Ah_l2 Ah_l3 Ah_l4 Ah_l5 Ah_l6 Cq_b Ar_b Ar_l0 Ar_l1 Ar_l2 Ar_l3 Bh_b Bh_l0 Bh_l1 B3_b B3_l0 Bd_b Bd_l0 Bd_l1 Bl_b Bl_l0 Bl_l1 B4_b B4_l0 Ce_b Ce_l0 Ao_b Ao_l0 Ao_l1 Ao_l2 Ao_l3 Bs_b Bs_l0 Bs_l1 C8_b B9_b B9_l0 Cv_b Cw_b Cx_b Cg_b Cg_l0 Ch_b Ch_l0 Ci_b Ci_l0 Dw_b C9_b Dn_b Ca_b Ca_l0 Dm_b Cj_b Cj_l0 Dv_b C5_b B7_b B7_l0 At_b At_l0 At_l1 At_l2 At_l3 Dd_b B6_b B6_l0 Dr_b Dc_b Dl_b A9_b A9_l0 A9_l1 Dq_b Df_b C3_b B1_b B1_l0 Bv_b Bv_l0 Bv_l1 Db_b An_b An_l0 An_l1 An_l2 An_l3 B0_b B0_l0 Do_b Bp_b Bp_l0 Bp_l1 B5_b B5_l0 Bi_b Bi_l0 Bi_l1 Dp_b Dh_b Dg_b Co_b Co_l0 Co_l1 Co_l2 Cf_b Cf_l0 Da_b Dj_b Du_b Bg_b Bg_l0 Bg_l1 Bm_b Bm_l0 Bm_l1 Bb_b Bb_l0 Bb_l1 Aj_b Aj_l0 Aj_l1 Aj_l2 Aj_l3 Aj_l4 Dk_b Bf_b Bf_l0 Bx_b Bx_l0 Ba_b Ba_l0 Ba_l1 Cu_b Bc_b Bc_l0 Cp_b Ag_b Ag_l0 Ag_l1 Ag_l2 Ag_l3 Ag_l4 Ap_b Ap_l0 Ap_l1 Bj_b Bj_l0 Bj_l1 C0_b C1_b Bt_b Bt_l0 Cz_b Di_b B8_b B8_l0 A5_b A5_l0 A5_l1 A5_l2 A6_b A6_l0 A6_l1 A6_l2 De_b Bo_b Bo_l0 Bo_l1 Cd_b Cd_l0 Cc_b Cc_l0 Bn_b Bn_l0 Bn_l1 A8_b A8_l0 A8_l1 Ab_b Ab_l0 Ab_l1 Ab_l2 Ab_l3 Ab_l4 Ab_l5 Ab_l6 Ab_l7 Ab_l8 Ab_l9 Ab_l10 Ab_l11 Ab_l12 Ab_l13 Cm_b Bz_b Bz_l0 Cn_b A7_b A7_l0 A7_l1 By_b By_l0 Bu_b Bu_l0
section
variable (E hs fs : LL)
def en (r : List C) : Prop := gi r 2 = 0 ∨ (gi r 2 = 3 ∧ bt hs (gi r 3) = true)
inductive Hq : Int → Prop where
 | base {f : List C} : f ∈ fs → Hq (gi f 0)
 | step {r : List C} : Hq (gi r 0) → r ∈ E → en hs r → Hq (gi r 1)
def has (out W : LL) (q : Int) : Prop := bt out q = true ∨ ∃ w, w ∈ W ∧ gi w 0 = q
def Wz (N : Int) (out : LL) : Prop := BOk N out ∧ ∀ q : Int, 0 ≤ q → (bt out q = true ↔ Hq E hs fs q)
end
variable {E hs fs : LL} {N : Int}
section
variable (E hs fs : LL) (N : Int)
def sub (a b : LL) : Prop := ∀ p, 0 ≤ p → bt a p = true → bt b p = true
end
variable {E hs fs : LL} {N : Int}
def Et {α : Type} (g : Nat → Nat → Nat → Nat → Option α) (Q : α → Prop) : Prop := ∃ r, Q r ∧ ∃ N, ∀ n a b c, N ≤ n → N ≤ a → N ≤ b → N ≤ c → g n a b c = some r
section
variable {α β : Type} {g h : Nat → Nat → Nat → Nat → Option α} {Q : α → Prop}
theorem Et.cond {c : Bool} (h1 : c = true → Et g Q) (h2 : c = false → Et h Q) : Et (fun n a b d => _root_.cond c (g n a b d) (h n a b d)) Q := by
 cases c with
 | true => exact h1 rfl
 | false => exact h2 rfl
theorem Et.t {c : Bool} (hc : c = true) (h1 : Et g Q) : Et (fun n a b d => _root_.cond c (g n a b d) (h n a b d)) Q := by
 subst hc; exact h1
theorem Et.f {c : Bool} (hc : c = false) (h1 : Et h Q) : Et (fun n a b d => _root_.cond c (g n a b d) (h n a b d)) Q := by
 subst hc; exact h1
theorem Et.bind {f : Nat → Option β} {R : β → Prop} {k : Nat → Nat → Nat → Nat → β → Option α} (h1 : Tot (fun n _ _ => f n) R) (h2 : ∀ r, R r → Et (fun n a b c => k n a b c r) Q) : Et (fun n a b c => (f n).bind fun r => k n a b c r) Q := by
 obtain ⟨r, h3, N, h4⟩ := h1
 obtain ⟨s, h5, M, h6⟩ := h2 r h3
 refine ⟨s, h5, max N M, fun n a b c hn ha hb hc => ?_⟩
 have h4' : f n = some r := h4 n n n (by omega) (by omega) (by omega)
 show (f n).bind _ = _
 rw [h4']
 exact h6 n a b c (by omega) (by omega) (by omega) (by omega)
theorem Et.step {H : Nat → Nat → Nat → Nat → Option α} (he : ∀ n a b c, H n a b (c + 1) = g n a b c) (h : Et g Q) : Et H Q := by
 obtain ⟨r, h1, N, h2⟩ := h
 refine ⟨r, h1, N + 1, fun n a b c hn ha hb hc => ?_⟩
 obtain ⟨m, rfl⟩ : ∃ m, c = m + 1 := ⟨c - 1, by omega⟩
 rw [he]
 exact h2 n a b m (by omega) (by omega) (by omega) (by omega)
theorem Et.out {g : Nat → Nat → Nat → Option α} (h : Tot g Q) : Et (fun n a b _ => g n a b) Q := by
 obtain ⟨r, h1, N, h2⟩ := h
 exact ⟨r, h1, N, fun n a b c hn ha hb _ => h2 n a b hn ha hb⟩
theorem Et.loop {σ : Type} {H : Nat → Nat → Nat → Nat → Int → σ → Option α} {n : Nat} (Inv : Nat → σ → Prop) (hn : n ≤ 4611686018427387904)
  (fin : ∀ s, Inv n s → Et (fun k a b c => H k a b c (n : Int) s) Q)
  (rnd : ∀ (i : Nat) s, i < n → Inv i s → (∀ s', Inv (i + 1) s' → Et (fun k a b c => H k a b c (IntKind.i64.wrap ((i : Int) + 1)) s') Q) → Et (fun k a b c => H k a b c (i : Int) s) Q) :
  ∀ (d i : Nat) s, n - i = d → i ≤ n → Inv i s → Et (fun k a b c => H k a b c (i : Int) s) Q := by
 intro d
 induction d with
 | zero =>
  intro i s hd hi h
  obtain rfl : i = n := by omega
  exact fin s h
 | succ d ih =>
  intro i s hd hi h
  refine rnd i s (by omega) h fun s' h' => ?_
  rw [Ai (x := (i : Int) + 1) (by omega) (by omega), show (i : Int) + 1 = ((i + 1 : Nat) : Int) by omega]
  exact ih (i + 1) s' (by omega) (by omega) h'
end
def Kd (r : List C) : Prop := gi r 2 = 0 ∨ gi r 2 = 1 ∨ gi r 2 = 2 ∨ gi r 2 = 3
theorem Afj {f : List C → Int → Int → Mk} {t : Int} : ∀ {l : LL} {m : Mk}, (∀ r, r ∈ l → ∀ n t x, x ∈ (f r n t).E → Kd x) → (∀ x, x ∈ m.E → Kd x) → ∀ x, x ∈ (Ed f t l m).E → Kd x := by
 intro l
 induction l with
 | nil => intro m _ h; exact h
 | cons r l ih =>
  intro m hf hm
  refine ih (fun r hr => hf r (List.mem_cons_of_mem _ hr)) (fun x hx => ?_)
  rcases List.mem_append.1 hx with h | h
  ·exact hm x h
  ·rcases List.mem_append.1 h with h | h
   ·exact hf r List.mem_cons_self _ _ x h
   ·rw [List.mem_singleton.1 h]; exact .inl rfl
theorem Xg {f : List C → Int → Int → Mk} {t s : Int} : ∀ {l : LL} {m : Al}, (∀ r, r ∈ l → ∀ n t x, x ∈ (f r n t).E → Kd x) → (∀ x, x ∈ m.E → Kd x) → ∀ x, x ∈ (Cr f t s l m).E → Kd x := by
 intro l
 induction l with
 | nil => intro m _ h; exact h
 | cons r l ih =>
  intro m hf hm
  refine ih (fun r hr => hf r (List.mem_cons_of_mem _ hr)) (fun x hx => ?_)
  rcases List.mem_append.1 hx with h | h
  ·exact hm x h
  ·rcases List.mem_append.1 h with h | h
   ·exact hf r List.mem_cons_self _ _ x h
   ·rw [List.mem_singleton.1 h]; exact .inl rfl
theorem Ab4 : ∀ (d : Nat) (op : Int) (subs tests : LL) (n t : Int), ∀ x, x ∈ (mk d op subs tests n t).E → Kd x := by
 intro d
 induction d with
 | zero => intro op subs tests n t x hx; cases hx
 | succ d ih =>
  intro op subs tests n t x hx
  have hf : ∀ r : List C, ∀ n t x, x ∈ (mk d (gi r 0) (gr r 1) (gr r 2) n t).E → Kd x := fun r n t => ih _ _ _ n t
  unfold mk at hx
  split at hx
  ·split at hx
   ·cases hx
   ·exact Afj (fun r _ => hf r) (hf _ _ _) x hx
  ·split at hx
   ·rcases List.mem_append.1 hx with h | h
    ·exact Xg (fun r _ => hf r) (fun x hx => by cases hx) x h
    ·obtain ⟨b, _, rfl⟩ := List.mem_map.1 h
     exact .inl rfl
   ·split at hx
    ·split at hx
     ·cases hx
     ·rcases List.mem_append.1 hx with h | h
      ·rcases List.mem_append.1 h with h | h
       ·exact hf _ _ _ x h
       ·rw [List.mem_singleton.1 h]; exact .inl rfl
      ·rw [List.mem_singleton.1 h]; exact .inl rfl
    ·split at hx
     ·rw [List.mem_singleton.1 hx]; exact .inr (.inr (.inr rfl))
     ·rw [List.mem_singleton.1 hx]
      show Kd (st4 n (n + 1) (Gq op) 0)
      unfold Gq
      split
      ·exact .inr (.inl rfl)
      ·split
       ·exact .inr (.inr (.inl rfl))
       ·exact .inl rfl
def one (h : Bool) (b : ByteArray) (at_ : Int) : Bool := h && (((b.data.getD at_.toNat 0).toNat : Int) == (1 : Int))
def exb (h1 : Bool) (b1 : ByteArray) (h2 : Bool) (b2 : ByteArray) (b : Int) (r : List C) : Bool := (gi r 2 == 1 && one h1 b1 (b + gi r 1)) || (gi r 2 == 2 && one h2 b2 (b + gi r 1))
def enb (hs : LL) (r : List C) : Bool := gi r 2 == 0 || (gi r 2 == 3 && bt hs (gi r 3))
theorem Sn {hs : LL} {r : List C} : enb hs r = true ↔ en hs r := by
 unfold enb en
 simp
inductive Gd (E hs : LL) (ex : List C → Bool) (e : Int) : Int → Prop where
 | fin : Gd E hs ex e e
 | ex {r : List C} : r ∈ E → ex r = true → Gd E hs ex e (gi r 0)
 | step {r : List C} : r ∈ E → en hs r → Gd E hs ex e (gi r 1) → Gd E hs ex e (gi r 0)
theorem Vj {E hs : LL} {r : List C} (hr : r ∈ E) (he : en hs r) {x : Int} (h : Hq E hs [[C.int .i64 (gi r 1)]] x) : Hq E hs [[C.int .i64 (gi r 0)]] x := by
 induction h with
 | base hf =>
  rw [List.mem_singleton.1 hf]
  exact .step (.base (f := [C.int .i64 (gi r 0)]) (List.mem_singleton.2 rfl)) hr he
 | step _ h2 h3 ih => exact .step ih h2 h3
theorem Aan {E hs : LL} {ex : List C → Bool} {e q : Int} : Gd E hs ex e q ↔ (Hq E hs [[C.int .i64 q]] e ∨ ∃ r, r ∈ E ∧ Hq E hs [[C.int .i64 q]] (gi r 0) ∧ ex r = true) := by
 constructor
 ·intro h
  induction h with
  | fin => exact .inl (.base (f := [C.int .i64 e]) (List.mem_singleton.2 rfl))
  | ex h1 h2 => exact .inr ⟨_, h1, .base (f := [C.int .i64 _]) (List.mem_singleton.2 rfl), h2⟩
  | step h1 h2 _ ih =>
   rcases ih with ih | ⟨r, a, b, c⟩
   ·exact .inl (Vj h1 h2 ih)
   ·exact .inr ⟨r, a, Vj h1 h2 b, c⟩
 ·have Fw : ∀ {x : Int}, Hq E hs [[C.int .i64 q]] x → Gd E hs ex e x → Gd E hs ex e q := fun h => by
   induction h with
   | base hf => intro g; rw [List.mem_singleton.1 hf] at g; exact g
   | step _ h2 h3 ih => intro g; exact ih (.step h2 h3 g)
  rintro (h | ⟨r, a, b, c⟩)
  ·exact Fw h .fin
  ·exact Fw b (.ex a c)
def upd (bits : LL) (b n : Int) (S : Int → Bool) : LL := (List.range bits.length).map fun (j : Nat) => if b ≤ (j : Int) ∧ (j : Int) < b + n ∧ S ((j : Int) - b) = true then [C.int .u8 1] else bits.getD j []
structure Zr (bits : LL) (b n : Int) : Prop where
 b0 : 0 ≤ b
 bn : b + n ≤ bits.length
 z : ∀ q, 0 ≤ q → q < n → bits.getD (b + q).toNat [] = [C.int .u8 0]
theorem Fv (bits : LL) (b n : Int) (S : Int → Bool) : (upd bits b n S).length = bits.length := by simp [upd]
theorem Hn {bits : LL} {b n : Int} {S : Int → Bool} {j : Nat} (h : j < bits.length) : (upd bits b n S).getD j [] = if b ≤ (j : Int) ∧ (j : Int) < b + n ∧ S ((j : Int) - b) = true then [C.int .u8 1] else bits.getD j [] := by
 unfold upd
 rw [List.getD_eq_getElem?_getD, List.getElem?_map, List.getElem?_range h]
 rfl
theorem Nc {a b : LL} (hl : a.length = b.length) (h : ∀ j, j < a.length → a.getD j [] = b.getD j []) : a = b := by
 refine List.ext_getElem hl fun j h1 h2 => ?_
 have := h j h1
 rw [List.getD_eq_getElem?_getD, List.getD_eq_getElem?_getD, List.getElem?_eq_getElem h1, List.getElem?_eq_getElem h2] at this
 exact this
theorem Agp {bits : LL} {b n : Int} {S S' : Int → Bool} (h : ∀ q, 0 ≤ q → q < n → S q = S' q) : upd bits b n S = upd bits b n S' := by
 refine Nc (by rw [Fv, Fv]) fun j hj => ?_
 rw [Fv] at hj
 rw [Hn hj, Hn hj]
 by_cases h1 : b ≤ (j : Int)
 ·by_cases h2 : (j : Int) < b + n
  ·rw [h _ (by omega) (by omega)]
  ·rw [if_neg (fun c => h2 c.2.1), if_neg (fun c => h2 c.2.1)]
 ·rw [if_neg (fun c => h1 c.1), if_neg (fun c => h1 c.1)]
theorem Agq (bits : LL) (b n : Int) : upd bits b n (fun _ => false) = bits := by
 refine Nc (Fv _ _ _ _) fun j hj => ?_
 rw [Fv] at hj
 rw [Hn hj, if_neg (fun c => by have := c.2.2; cases this)]
theorem Oe {bits : LL} {b n q : Int} {S : Int → Bool} (z : Zr bits b n) (h0 : 0 ≤ q) (h1 : q < n) : (upd bits b n S).getD (b + q).toNat [] = [C.int .u8 (if S q = true then 1 else 0)] := by
 have := z.b0
 have := z.bn
 rw [Hn (by omega), show (((b + q).toNat : Nat) : Int) = b + q by omega, show b + q - b = q by omega, z.z q h0 h1]
 by_cases h : S q = true
 ·rw [if_pos ⟨by omega, by omega, h⟩, if_pos h]
 ·rw [if_neg (fun c => h c.2.2), if_neg h]
theorem Qk {bits : LL} {b n q : Int} {S : Int → Bool} (z : Zr bits b n) (h0 : 0 ≤ q) (h1 : q < n) : gi ((upd bits b n S).getD (b + q).toNat []) 0 = if S q = true then 1 else 0 := by
 rw [Oe z h0 h1]
 rfl
theorem Ql {bits : LL} {b n q : Int} {S : Int → Bool} (z : Zr bits b n) (h0 : 0 ≤ q) (h1 : q < n) : (upd bits b n S).set (b + q).toNat (((upd bits b n S).getD (b + q).toNat []).set 0 (C.int .u8 1)) = upd bits b n (fun x => S x || decide (x = q)) := by
 have := z.b0
 have := z.bn
 refine Nc (by rw [List.length_set, Fv, Fv]) fun j hj => ?_
 rw [List.length_set, Fv] at hj
 by_cases e : j = (b + q).toNat
 ·subst e
  rw [Oe (S := fun x => S x || decide (x = q)) z h0 h1, Oe z h0 h1, List.getD_eq_getElem?_getD, List.getElem?_set_self (by rw [Fv]; exact hj)]
  simp
 ·rw [List.getD_eq_getElem?_getD, List.getElem?_set_ne (fun h => e h.symm), ← List.getD_eq_getElem?_getD, Hn hj, Hn hj]
  by_cases h2 : b ≤ (j : Int)
  ·rw [decide_eq_false (show ¬ ((j : Int) - b = q) by omega), Bool.or_false]
  ·rw [if_neg (fun c => h2 c.1), if_neg (fun c => h2 c.1)]
def Hb (n : Nat) (S : Int → Bool) : Nat := match n with
 | 0 => 0
 | n + 1 => Hb n S + (if S (n : Int) = true then 0 else 1)
theorem Yz {S S' : Int → Bool} (h : ∀ q, S q = true → S' q = true) : ∀ n, Hb n S' ≤ Hb n S := by
 intro n
 induction n with
 | zero => exact Nat.le_refl _
 | succ n ih =>
  unfold Hb
  by_cases h1 : S (n : Int) = true
  ·rw [if_pos h1, if_pos (h _ h1)]; exact ih
  ·rw [if_neg h1]; split <;> omega
theorem Y0 {S S' : Int → Bool} (h : ∀ q, S q = true → S' q = true) {q : Int} (h0 : 0 ≤ q) (hn : S q = false) (hy : S' q = true) : ∀ n : Nat, q < n → Hb n S' < Hb n S := by
 intro n
 induction n with
 | zero => intro h1; omega
 | succ n ih =>
  intro h1
  have hle := Yz h n
  unfold Hb
  by_cases e : q = n
  ·subst e
   rw [if_pos hy, if_neg (by rw [hn]; simp)]
   omega
  ·have := ih (by omega)
   by_cases h2 : S (n : Int) = true
   ·rw [if_pos h2, if_pos (h _ h2)]; omega
   ·rw [if_neg h2]; split <;> omega
theorem Tc (h t : Bool) (b : ByteArray) (x : Int) (h0 : 0 ≤ x) (h1 : h = true → x < b.size) : Tot (fun k _ _ => (lv k).Dc h t b x) (fun r => r = one h b x) := by
 refine Dc_up _ _ _ _ (Tot.congr ?_ (fun _ _ _ => Dc_q ..))
 refine Tot.cond (fun hh => Tot.t (decide_eq_true h0) (Tot.t (decide_eq_true (h1 hh)) (Tot.ret (by unfold one; rw [hh]; rfl)))) (fun hh => Tot.ret (by unfold one; rw [hh]; rfl))
section
variable {D B K E T ea : LL} {n s e ek : Int} {e1 e2 et : ByteArray} {h1 t1 h2 t2 : Bool} {b1 b2 : ByteArray}
open Classical in
noncomputable def hh (D B K : LL) (n s e : Int) (E T : LL) (ek : Int) (e1 e2 : ByteArray) (ea : LL) (et : ByteArray) (bits : LL) (f : List C) : Bool := if h : ∃ b, HH D B K n s e E T ek e1 e2 ea et bits f b then h.choose else false
theorem Pf {bits : LL} {f : List C} (h : ∃ b, HH D B K n s e E T ek e1 e2 ea et bits f b) : HH D B K n s e E T ek e1 e2 ea et bits f (hh D B K n s e E T ek e1 e2 ea et bits f) := by
 unfold hh
 rw [dif_pos h]
 exact h.choose_spec
noncomputable def Gz (D B K : LL) (n s e : Int) (E T : LL) (ek : Int) (e1 e2 : ByteArray) (ea : LL) (et : ByteArray) (bits TT : LL) : LL := TT.map fun f => [C.bool (hh D B K n s e E T ek e1 e2 ea et bits f)]
theorem Tk {bits TT : LL} {i : Nat} (h : i < TT.length) : Gz D B K n s e E T ek e1 e2 ea et bits (TT.take (i + 1)) = Gz D B K n s e E T ek e1 e2 ea et bits (TT.take i) ++ [[C.bool (hh D B K n s e E T ek e1 e2 ea et bits (TT.getD i []))]] := by
 rw [G7 h]
 simp [Gz]
theorem Tj {bits TT : LL} : (Gz D B K n s e E T ek e1 e2 ea et bits TT).length = TT.length := by simp [Gz]
theorem Agg (n' s' e' : Int) (E' : LL) {bits TT : LL} (hb : ∀ f, f ∈ TT → ∃ b, HH D B K n s e E T ek e1 e2 ea et bits f b) (hl : TT.length ≤ 1000) : Tot (fun k _ _ => (lv k).Bs D B K n s e E T n' s' e' E' TT ek e1 e2 ea et bits) (fun r => r = Gz D B K n s e E T ek e1 e2 ea et bits TT) := by
 refine Bs_up _ _ _ _ _ _ _ _ _ _ _ _ _ _ _ _ _ _ _ (Tot.congr ?_ (fun _ _ _ => Bs_q ..))
 refine Tot.in0 (g := fun k p_ q_ => Bs_l0 (lv k) k D B K n s e E T n' s' e' E' TT ek e1 e2 ea et bits p_ ) ?_
 refine Tot.step0 (fun _ _ _ => Bs_l0_q ..) ?_
 refine Tot.cond (fun h0 => ?_) (fun h0 => Tot.ret ?_)
 ·have h0 := of_decide_eq_true h0
  have h0' : 0 < TT.length := by omega
  refine Tot.t (decide_eq_true (by omega)) ?_
  refine Tot.bind (Pf (hb _ (Eb (d := []) h0'))).p1 fun r hr => ?_
  subst hr
  refine Tot.loop (H := fun k q r v w => Bs_l1 (lv k) k D B K n s e E T n' s' e' E' TT ek e1 e2 ea et bits q v D B K n s e E T ek e1 e2 ea et bits w) (n := TT.length) (fun i w => w = Gz D B K n s e E T ek e1 e2 ea et bits (TT.take i)) (by omega) (fun w hw => ?_) (fun i w hi hw next => ?_) _ 1 _ rfl (by omega) (by rw [Tk h0']; rfl)
  ·refine Tot.step0 (fun _ _ _ => Bs_l1_q ..) ?_
   rw [List.take_length] at hw
   exact Tot.f (decide_eq_false (by omega)) (Tot.ret hw)
  ·have hwl : w.length ≤ 1000 := by rw [hw, Tj, List.length_take]; omega
   refine Tot.step0 (fun _ _ _ => Bs_l1_q ..) ?_
   rw [Int.toNat_natCast]
   repeat (refine Tot.t (decide_eq_true (by omega)) ?_)
   refine Tot.bind (Pf (hb _ (Eb (d := []) hi))).p1 fun r hr => ?_
   subst hr
   exact Tot.t (D5 Ym (by omega)) (next _ (by rw [Tk hi, hw]))
 ·have h0 := of_decide_eq_false h0
  have : TT = [] := List.length_eq_zero_iff.1 (by omega)
  subst this
  rfl
structure PC (B K : LL) (i : Nat) (b : Int) (M : Mk) (TT hs bits : LL) (h1 : Bool) (b1 : ByteArray) (h2 : Bool) (b2 : ByteArray) : Prop where
 il : i < B.length
 ik : i < K.length
 bl' : B.length ≤ 1000
 kb : gi (K.getD i []) 0 = b
 bN : gi (B.getD i []) 0 = M.n
 bS : gi (B.getD i []) 1 = M.s
 be : gi (B.getD i []) 2 = M.e
 bE : gr (B.getD i []) 3 = M.E
 bT : gr (B.getD i []) 4 = TT
 z : Zr bits b M.n
 bl : bits.length ≤ 1000000
 ed : ∀ r, r ∈ M.E → EdI 0 M.n 0 hs.length r
 kd : ∀ r, r ∈ M.E → Kd r
 e0 : 0 ≤ M.e
 en : M.e < M.n
 El : M.E.length ≤ 1000
 n1 : M.n ≤ 1000
 s1 : h1 = true → b + M.n ≤ b1.size
 s2 : h2 = true → b + M.n ≤ b2.size
def okE (h1 : Bool) (b1 : ByteArray) (h2 : Bool) (b2 : ByteArray) (b : Int) (hs : LL) (S : Int → Bool) (r : List C) : Bool := exb h1 b1 h2 b2 b r || (enb hs r && S (gi r 1))
variable {i : Nat} {b : Int} {M : Mk} {TT hs bits : LL}
theorem T5 (c : PC B K i b M TT hs bits h1 b1 h2 b2) {r : List C} (hr : r ∈ M.E) (S : Int → Bool) : Tot (fun k _ _ => (lv k).Dd D B K n s e E T ek e1 e2 ea et h1 t1 b1 h2 t2 b2 (upd bits b M.n S) b (gi r 0) (gi r 1) (gi r 2) (gi r 3) hs) (fun x => x = (okE h1 b1 h2 b2 b hs S r, D, B, K, n, s, e, E, T, ek, e1, e2, ea, et, h1, t1, b1, h2, t2, b2, upd bits b M.n S)) := by
 obtain ⟨f0, f1, g0, g1, hk⟩ := c.ed r hr
 have z0 := c.z.b0
 have z1 := c.z.bn
 have hbl := c.bl
 refine Dd_up _ _ _ _ _ _ _ _ _ _ _ _ _ _ _ _ _ _ _ _ _ _ _ _ _ _ (Tot.congr ?_ (fun _ _ _ => Dd_q ..))
 rw [Ai (x := b + gi r 1) (by omega) (by omega), Fv, Qk c.z g0 g1]
 refine Tot.cond (fun k1 => ?_) (fun k1 => Tot.cond (fun k2 => ?_) (fun k2 => Tot.cond (fun k3 => ?_) (fun k3 => ?_)))
 ·refine Tot.bind (Tc h1 t1 b1 (b + gi r 1) (by omega) (fun h => by have := c.s1 h; omega)) fun x hx => Tot.ret ?_
  subst hx
  have k1 : gi r 2 = 1 := eq_of_beq k1
  have : okE h1 b1 h2 b2 b hs S r = one h1 b1 (b + gi r 1) := by
   unfold okE exb enb
   rw [k1]
   simp
  rw [this]
 ·refine Tot.bind (Tc h2 t2 b2 (b + gi r 1) (by omega) (fun h => by have := c.s2 h; omega)) fun x hx => Tot.ret ?_
  subst hx
  have k2 : gi r 2 = 2 := eq_of_beq k2
  have : okE h1 b1 h2 b2 b hs S r = one h2 b2 (b + gi r 1) := by
   unfold okE exb enb
   rw [k2]
   simp
  rw [this]
 ·have k3 : gi r 2 = 3 := eq_of_beq k3
  have ht := hk k3
  have h0 : okE h1 b1 h2 b2 b hs S r = (bt hs (gi r 3) && S (gi r 1)) := by
   unfold okE exb enb
   rw [k3]
   simp
  refine Tot.t (decide_eq_true ht.1) (Tot.t (decide_eq_true ht.2) (Tot.cond (fun h => ?_) (fun h => Tot.ret ?_)))
  ·refine Tot.t (decide_eq_true (by omega)) (Tot.t (decide_eq_true (by omega)) (Tot.ret ?_))
   have h : bt hs (gi r 3) = true := h
   rw [h0, h]
   cases S (gi r 1) <;> rfl
  ·have h : bt hs (gi r 3) = false := h
   rw [h0, h]
   rfl
 ·have k0 : gi r 2 = 0 := by
   have k1 := ne_of_beq_false k1
   have k2 := ne_of_beq_false k2
   have k3 := ne_of_beq_false k3
   rcases c.kd r hr with h | h | h | h
   ·exact h
   ·exact absurd h k1
   ·exact absurd h k2
   ·exact absurd h k3
  have h0 : okE h1 b1 h2 b2 b hs S r = S (gi r 1) := by
   unfold okE exb enb
   rw [k0]
   simp
  refine Tot.t (decide_eq_true (by omega)) (Tot.t (decide_eq_true (by omega)) (Tot.ret ?_))
  rw [h0]
  cases S (gi r 1) <;> rfl
structure PI (h1 : Bool) (b1 : ByteArray) (h2 : Bool) (b2 : ByteArray) (b : Int) (M : Mk) (hs : LL) (S0 S : Int → Bool) (v : Bool) (j : Nat) : Prop where
 snd : ∀ q, S q = true → Gd M.E hs (exb h1 b1 h2 b2 b) M.e q
 fin : S M.e = true
 sub : ∀ q, S0 q = true → S q = true
 t : v = true → Hb M.n.toNat S < Hb M.n.toNat S0
 f : v = false → S = S0 ∧ ∀ m, m < j → okE h1 b1 h2 b2 b hs S (M.E.getD m []) = true → S (gi (M.E.getD m []) 0) = true
theorem PI.skip {S0 S : Int → Bool} {v : Bool} {j : Nat} (h : PI h1 b1 h2 b2 b M hs S0 S v j) (hj : okE h1 b1 h2 b2 b hs S (M.E.getD j []) = true → S (gi (M.E.getD j []) 0) = true) : PI h1 b1 h2 b2 b M hs S0 S v (j + 1) :=
 ⟨h.snd, h.fin, h.sub, h.t, fun hv => ⟨(h.f hv).1, fun m hm => by
  rcases Nat.lt_or_ge m j with g | g
  ·exact (h.f hv).2 m g
  ·rw [show m = j by omega]; exact hj⟩⟩
theorem PI.set {S0 S : Int → Bool} {v : Bool} {j : Nat} (c : PC B K i b M TT hs bits h1 b1 h2 b2) (hjl : j < M.E.length) (h : PI h1 b1 h2 b2 b M hs S0 S v j) (hf : S (gi (M.E.getD j []) 0) = false) (hy : okE h1 b1 h2 b2 b hs S (M.E.getD j []) = true) : PI h1 b1 h2 b2 b M hs S0 (fun x => S x || decide (x = gi (M.E.getD j []) 0)) true (j + 1) := by
 have hr : M.E.getD j [] ∈ M.E := Eb hjl
 obtain ⟨f0, f1, g0, g1, hk⟩ := c.ed _ hr
 have n0 : 0 ≤ M.n := by omega
 refine ⟨fun q hq => ?_, by rw [h.fin]; rfl, fun q hq => by rw [h.sub q hq]; rfl, fun _ => ?_, fun hv => by cases hv⟩
 ·rw [Bool.or_eq_true, decide_eq_true_eq] at hq
  rcases hq with hq | rfl
  ·exact h.snd q hq
  ·unfold okE at hy
   rw [Bool.or_eq_true, Bool.and_eq_true] at hy
   rcases hy with hy | ⟨hy1, hy2⟩
   ·exact .ex hr hy
   ·exact .step hr (Sn.1 hy1) (h.snd _ hy2)
 ·have hs0 : S0 (gi (M.E.getD j []) 0) = false := by
   cases hx : S0 (gi (M.E.getD j []) 0) with
   | false => rfl
   | true => rw [h.sub _ hx] at hf; cases hf
  exact Y0 (fun q hq => by rw [h.sub q hq]; rfl) f0 hs0 (by rw [decide_eq_true rfl, Bool.or_true]) M.n.toNat (by omega)
open Classical in
noncomputable def gd (h1 : Bool) (b1 : ByteArray) (h2 : Bool) (b2 : ByteArray) (b : Int) (M : Mk) (hs : LL) (q : Int) : Bool := decide (Gd M.E hs (exb h1 b1 h2 b2 b) M.e q)
open Classical in
theorem PI.all {S0 S : Int → Bool} (h : PI h1 b1 h2 b2 b M hs S0 S false M.E.length) : S = gd h1 b1 h2 b2 b M hs := by
 have cl : ∀ r, r ∈ M.E → okE h1 b1 h2 b2 b hs S r = true → S (gi r 0) = true := fun r hr => by
  obtain ⟨m, hm, rfl⟩ := Fe hr
  exact (h.f rfl).2 m hm
 have up : ∀ q, Gd M.E hs (exb h1 b1 h2 b2 b) M.e q → S q = true := fun q hq => by
  induction hq with
  | fin => exact h.fin
  | ex a c => exact cl _ a (by unfold okE; rw [c]; rfl)
  | step a c _ ih => exact cl _ a (by unfold okE; rw [Sn.2 c, ih, Bool.and_true, Bool.or_true])
 funext q
 unfold gd
 cases hq : S q with
 | true => exact (decide_eq_true (h.snd q hq)).symm
 | false => exact (decide_eq_false fun g => by rw [up q g] at hq; cases hq).symm
theorem U4 (c : PC B K i b M TT hs bits h1 b1 h2 b2) (S0 : Int → Bool) {Q : _ → Prop} (hend : ∀ S v, PI h1 b1 h2 b2 b M hs S0 S v M.E.length → Tot (fun k a q => Ao_l3 (lv k) k D B K n s e E T ek e1 e2 ea et h1 t1 b1 h2 t2 b2 bits (i : Int) a v D B K n s e E T ek e1 e2 ea et h1 t1 b1 h2 t2 b2 hs (upd bits b M.n S)) Q) : ∀ (d j : Nat) (w : (Int → Bool) × Bool), M.E.length - j = d → j ≤ M.E.length → PI h1 b1 h2 b2 b M hs S0 w.1 w.2 j → Tot (fun k a q => Ao_l2 (lv k) k D B K n s e E T ek e1 e2 ea et h1 t1 b1 h2 t2 b2 bits (i : Int) a q w.2 (j : Int) D B K n s e E T ek e1 e2 ea et h1 t1 b1 h2 t2 b2 hs (upd bits b M.n w.1)) Q := by
 have hEl := c.El
 have z0 := c.z.b0
 have z1 := c.z.bn
 have hbl := c.bl
 refine Tot.loop (H := fun k a q v (w : (Int → Bool) × Bool) => Ao_l2 (lv k) k D B K n s e E T ek e1 e2 ea et h1 t1 b1 h2 t2 b2 bits (i : Int) a q w.2 v D B K n s e E T ek e1 e2 ea et h1 t1 b1 h2 t2 b2 hs (upd bits b M.n w.1)) (fun j w => PI h1 b1 h2 b2 b M hs S0 w.1 w.2 j) (by omega) (fun w hw => ?_) (fun j w hj hw next => ?_)
 ·refine Tot.step1 (fun _ _ _ => Ao_l2_q ..) ?_
  rw [Int.toNat_natCast, c.bE]
  exact Tot.f (decide_eq_false (by omega)) (hend _ _ hw)
 ·have hr : M.E.getD j [] ∈ M.E := Eb hj
  obtain ⟨f0, f1, g0, g1, hk⟩ := c.ed _ hr
  refine Tot.step1 (fun _ _ _ => Ao_l2_q ..) ?_
  simp only [Int.toNat_natCast, c.bE, c.kb, Fv]
  rw [Ai (x := b + gi (M.E.getD j []) 0) (by omega) (by omega), Qk c.z f0 f1]
  repeat (refine Tot.t (decide_eq_true (by omega)) ?_)
  refine Tot.cond (fun h => ?_) (fun h => next w (hw.skip fun _ => ?_))
  ·have hf : w.1 (gi (M.E.getD j []) 0) = false := by
    cases hx : w.1 (gi (M.E.getD j []) 0) with
    | false => rfl
    | true => rw [hx] at h; cases h
   refine Tot.bind (T5 c hr w.1) fun x hx => ?_
   subst hx
   dsimp only
   refine Tot.cond (fun hL => ?_) (fun hL => next w (hw.skip fun hy => ?_))
   ·rw [Fv, Ql c.z f0 f1]
    repeat (refine Tot.t (decide_eq_true (by omega)) ?_)
    exact next (_, true) (hw.set c hj hf hL)
   ·rw [hy] at hL; cases hL
  ·cases hx : w.1 (gi (M.E.getD j []) 0) with
   | true => rfl
   | false => rw [hx] at h; cases h
theorem rounds (c : PC B K i b M TT hs bits h1 b1 h2 b2) : ∀ (N : Nat) (S : Int → Bool) (v : Bool), (v = true → Hb M.n.toNat S < N ∧ S M.e = true ∧ ∀ q, S q = true → Gd M.E hs (exb h1 b1 h2 b2 b) M.e q) → (v = false → S = gd h1 b1 h2 b2 b M hs) → Tot (fun k a q => Ao_l3 (lv k) k D B K n s e E T ek e1 e2 ea et h1 t1 b1 h2 t2 b2 bits (i : Int) a v D B K n s e E T ek e1 e2 ea et h1 t1 b1 h2 t2 b2 hs (upd bits b M.n S)) (fun r => r = (D, B, K, n, s, e, E, T, ek, e1, e2, ea, et, h1, t1, b1, h2, t2, b2, upd bits b M.n (gd h1 b1 h2 b2 b M hs))) := by
 intro N
 induction N with
 | zero =>
  intro S v hv hf
  refine Tot.step0 (fun _ _ _ => Ao_l3_q ..) ?_
  cases v with
  | true => exact absurd (hv rfl).1 (Nat.not_lt_zero _)
  | false => exact Tot.ret (by rw [hf rfl])
 | succ N ih =>
  intro S v hv hf
  refine Tot.step0 (fun _ _ _ => Ao_l3_q ..) ?_
  cases v with
  | false => exact Tot.ret (by rw [hf rfl])
  | true =>
   obtain ⟨hc, hfin, hsnd⟩ := hv rfl
   refine Tot.t rfl (Tot.in1 (U4 c S (fun S' v' h => ih S' v' (fun e => ⟨by have := h.t e; omega, h.fin, h.snd⟩) (fun e => by subst e; exact h.all)) _ 0 (S, false) rfl (Nat.zero_le _) ⟨hsnd, hfin, fun q h => h, fun e => (by cases e), fun _ => ⟨rfl, fun m hm => by omega⟩⟩))
theorem Fa (c : PC B K i b M TT hs bits h1 b1 h2 b2) : bits.set (b + M.e).toNat ((bits.getD (b + M.e).toNat []).set 0 (C.int .u8 1)) = upd bits b M.n (fun x => decide (x = M.e)) := by
 have h := Ql (S := fun _ => false) c.z c.e0 c.en
 rw [Agq] at h
 rw [h]
 refine Agp fun q _ _ => ?_
 rw [Bool.false_or]
theorem Ady (c : PC B K i b M TT hs bits h1 b1 h2 b2) (ht : Tot (fun k _ _ => (lv k).Bs D B K n s e E T M.n M.s M.e M.E TT ek e1 e2 ea et bits) (fun r => r = hs)) : Tot (fun k _ _ => (lv k).Ao D B K n s e E T ek e1 e2 ea et h1 t1 b1 h2 t2 b2 bits (i : Int)) (fun r => r = (D, B, K, n, s, e, E, T, ek, e1, e2, ea, et, h1, t1, b1, h2, t2, b2, upd bits b M.n (gd h1 b1 h2 b2 b M hs))) := by
 have hEl := c.El
 have z0 := c.z.b0
 have z1 := c.z.bn
 have hbl := c.bl
 have he0 := c.e0
 have hen := c.en
 have hil := c.il
 have hik := c.ik
 have start : PI h1 b1 h2 b2 b M hs (fun x => decide (x = M.e)) (fun x => decide (x = M.e)) false 0 := ⟨fun q hq => by rw [of_decide_eq_true hq]; exact .fin, decide_eq_true rfl, fun q h => h, fun e => (by cases e), fun _ => ⟨rfl, fun m hm => by omega⟩⟩
 refine Ao_up _ _ _ _ _ _ _ _ _ _ _ _ _ _ _ _ _ _ _ _ _ (Tot.congr ?_ (fun _ _ _ => Ao_q ..))
 simp only [Int.toNat_natCast, c.bE, c.kb, c.be, c.bN, c.bS, c.bT]
 rw [Ai (x := b + M.e) (by omega) (by omega)]
 repeat (refine Tot.t (decide_eq_true (by omega)) ?_)
 refine Tot.bind ht fun r hr => ?_
 rw [hr]
 clear hr r
 repeat (refine Tot.t (decide_eq_true (by omega)) ?_)
 refine Tot.in0 (g := fun k p_ q_ => Ao_l0 (lv k) k D B K n s e E T ek e1 e2 ea et h1 t1 b1 h2 t2 b2 bits (i : Int) p_ true hs) ?_
 refine Tot.step0 (fun _ _ _ => Ao_l0_q ..) ?_
 refine Tot.t rfl (Tot.in1 (Tot.loop (H := fun k a q v (_ : Unit) => Ao_l1 (lv k) k D B K n s e E T ek e1 e2 ea et h1 t1 b1 h2 t2 b2 bits (i : Int) a q v hs) (n := M.E.length) (fun j _ => PI h1 b1 h2 b2 b M hs (fun x => decide (x = M.e)) (fun x => decide (x = M.e)) false j) (by omega) (fun _ hw => ?_) (fun j _ hj hw next => ?_) _ 0 () rfl (Nat.zero_le _) start))
 ·refine Tot.step1 (fun _ _ _ => Ao_l1_q ..) ?_
  rw [Int.toNat_natCast, c.bE]
  refine Tot.f (decide_eq_false (by omega)) ?_
  refine Tot.step0 (fun _ _ _ => Ao_l0_q ..) ?_
  simp only [Int.toNat_natCast, c.bE, c.kb, c.be]
  rw [Ai (x := b + M.e) (by omega) (by omega), Fa c, hw.all]
  exact Tot.ret rfl
 ·have hr : M.E.getD j [] ∈ M.E := Eb hj
  obtain ⟨f0, f1, g0, g1, hk⟩ := c.ed _ hr
  refine Tot.step1 (fun _ _ _ => Ao_l1_q ..) ?_
  simp only [Int.toNat_natCast, c.bE, c.kb, c.be]
  rw [Ai (x := b + M.e) (by omega) (by omega), Ai (x := b + gi (M.E.getD j []) 0) (by omega) (by omega), Fa c, Fv, Qk c.z f0 f1]
  repeat (refine Tot.t (decide_eq_true (by omega)) ?_)
  refine Tot.cond (fun h => ?_) (fun h => next () (hw.skip fun _ => ?_))
  ·have hf : decide (gi (M.E.getD j []) 0 = M.e) = false := by
    cases hx : decide (gi (M.E.getD j []) 0 = M.e) with
    | false => rfl
    | true => rw [hx] at h; cases h
   refine Tot.bind (T5 c hr _) fun x hx => ?_
   subst hx
   dsimp only
   have p2 := U4 c (fun x => decide (x = M.e)) (Q := fun r => r = (D, B, K, n, s, e, E, T, ek, e1, e2, ea, et, h1, t1, b1, h2, t2, b2, upd bits b M.n (gd h1 b1 h2 b2 b M hs))) (fun S' v' h => rounds c _ S' v' (fun e => ⟨Nat.lt_succ_self _, h.fin, h.snd⟩) (fun e => by subst e; exact h.all))
   have hw' : ((j : Int) + 1) = ((j + 1 : Nat) : Int) := by omega
   rw [Ai (x := (j : Int) + 1) (by omega) (by omega), hw']
   refine Tot.cond (fun hL => ?_) (fun hL => ?_)
   ·rw [Fv, Ql c.z f0 f1]
    repeat (refine Tot.t (decide_eq_true (by omega)) ?_)
    exact p2 _ (j + 1) (_, true) rfl (by omega) (hw.set c hj hf hL)
   ·exact p2 _ (j + 1) (_, false) rfl (by omega) (hw.skip fun hy => by rw [hy] at hL; cases hL)
  ·cases hx : decide (gi (M.E.getD j []) 0 = M.e) with
   | true => rfl
   | false => rw [hx] at h; cases h
end
section
variable {D B K E T ea : LL} {n s e ek : Int} {e1 e2 et : ByteArray} {h1 t1 h2 t2 : Bool} {b1 b2 : ByteArray}
variable {i : Nat} {b : Int} {M : Mk} {TT hs bits : LL}
def DI (h1 : Bool) (b1 : ByteArray) (h2 : Bool) (b2 : ByteArray) (b : Int) (M : Mk) (cl : LL) (j : Nat) (ok : Bool) : Prop := ok = true ↔ (bt cl M.e = true ∨ ∃ m, m < j ∧ bt cl (gi (M.E.getD m []) 0) = true ∧ exb h1 b1 h2 b2 b (M.E.getD m []) = true)
theorem DI.yes {cl : LL} {j : Nat} {ok : Bool} (h : DI h1 b1 h2 b2 b M cl j ok) (h3 : bt cl (gi (M.E.getD j []) 0) = true) (h4 : exb h1 b1 h2 b2 b (M.E.getD j []) = true) : DI h1 b1 h2 b2 b M cl (j + 1) true := ⟨fun _ => .inr ⟨j, by omega, h3, h4⟩, fun _ => rfl⟩
theorem DI.no {cl : LL} {j : Nat} {ok : Bool} (h : DI h1 b1 h2 b2 b M cl j ok) (h3 : ¬ (bt cl (gi (M.E.getD j []) 0) = true ∧ exb h1 b1 h2 b2 b (M.E.getD j []) = true)) : DI h1 b1 h2 b2 b M cl (j + 1) ok := by
 unfold DI at h ⊢
 rw [h]
 constructor
 ·rintro (h | ⟨m, a, b, c⟩)
  ·exact .inl h
  ·exact .inr ⟨m, by omega, b, c⟩
 ·rintro (h | ⟨m, a, b, c⟩)
  ·exact .inl h
  ·rcases Nat.lt_or_ge m j with g | g
   ·exact .inr ⟨m, g, b, c⟩
   ·rw [show m = j by omega] at b c
    exact absurd ⟨b, c⟩ h3
open Classical in
theorem DI.all (c : PC B K i b M TT hs bits h1 b1 h2 b2) {cl : LL} {q : Int} (hq : Wz M.E hs [[C.int .i64 q]] M.n cl) {ok : Bool} (h : DI h1 b1 h2 b2 b M cl M.E.length ok) : ok = gd h1 b1 h2 b2 b M hs q := by
 have : ok = true ↔ Gd M.E hs (exb h1 b1 h2 b2 b) M.e q := by
  rw [Aan, show (ok = true ↔ _) from h]
  constructor
  ·rintro (h | ⟨m, a, b, d⟩)
   ·exact .inl ((hq.2 _ c.e0).1 h)
   ·have hr := Eb (d := []) a
    exact .inr ⟨_, hr, (hq.2 _ (c.ed _ hr).1).1 b, d⟩
  ·rintro (h | ⟨r, a, b, d⟩)
   ·exact .inl ((hq.2 _ c.e0).2 h)
   ·obtain ⟨m, hm, rfl⟩ := Fe a
    exact .inr ⟨m, hm, (hq.2 _ (c.ed _ a).1).2 b, d⟩
 unfold gd
 cases hk : ok with
 | true => exact (decide_eq_true (this.1 hk)).symm
 | false => exact (decide_eq_false fun g => by rw [this.2 g] at hk; cases hk).symm
end
theorem Aa7 : Ej Try.prog 67 5 = true := by kernel_rfl
section
variable {p : List C} {E T ea : LL} {n s e ek : Int} {e1 e2 et : ByteArray} {h1 t1 h2 t2 : Bool} {b1 b2 : ByteArray}
noncomputable def Hk (p : List C) (n s e : Int) (E T : LL) (ek : Int) (e1 e2 : ByteArray) (ea : LL) (et : ByteArray) (h1 : Bool) (b1 : ByteArray) (h2 : Bool) (b2 : ByteArray) : Nat → LL
 | 0 => List.replicate (Be (DD p)).toNat [C.int .u8 0]
 | i + 1 => upd (Hk p n s e E T ek e1 e2 ea et h1 b1 h2 b2 i) (Be ((DD p).take i)) (nst ((DD p).getD i [])) (gd h1 b1 h2 b2 (Be ((DD p).take i)) (A4 ((DD p).getD i [])) (Gz (DD p) ((DD p).map C7) (Ct 0 (DD p)) n s e E T ek e1 e2 ea et (Hk p n s e E T ek e1 e2 ea et h1 b1 h2 b2 i) ((A4 ((DD p).getD i [])).T.map nf)))
theorem Ml (h : Cb p) : ∀ i, ((Hk p n s e E T ek e1 e2 ea et h1 b1 h2 b2 i).length : Int) = Be (DD p) := by
 have := (F7 h.ded.good).1
 intro i
 induction i with
 | zero => show ((List.replicate _ _).length : Int) = _; rw [List.length_replicate]; omega
 | succ i ih => show ((upd _ _ _ _).length : Int) = _; rw [Fv]; exact ih
theorem Afe (h : Cb p) : ∀ i, i ≤ (DD p).length → ∀ j : Nat, Be ((DD p).take i) ≤ j → (j : Int) < Be (DD p) → (Hk p n s e E T ek e1 e2 ea et h1 b1 h2 b2 i).getD j [] = [C.int .u8 0] := by
 intro i
 induction i with
 | zero =>
  intro _ j _ hj
  show (List.replicate _ _).getD j [] = _
  rw [List.getD_eq_getElem?_getD, List.getElem?_replicate, if_pos (by omega)]
  rfl
 | succ i ih =>
  intro hi j h0 hj
  have hl := Ml (n := n) (s := s) (e := e) (E := E) (T := T) (ek := ek) (e1 := e1) (e2 := e2) (ea := ea) (et := et) (h1 := h1) (b1 := b1) (h2 := h2) (b2 := b2) h i
  rw [G7 (show i < (DD p).length by omega), I8] at h0
  have e3 : Be [(DD p).getD i []] = nst ((DD p).getD i []) := by simp [Be]
  have h4 := (h.ded.good _ (Eb (d := []) (show i < (DD p).length by omega))).nst
  show (upd _ _ _ _).getD j [] = _
  rw [Hn (by omega), if_neg (fun c => by have := c.2.1; omega)]
  exact ih (by omega) j (by omega) hj
theorem Aas (h : Cb p) (hal : ea.length ≤ 1048576) {bits : LL} (hl : (bits.length : Int) = Be (DD p)) {TT : LL} (hT : ∀ x, x ∈ TT → OkF x) : ∀ f, f ∈ TT → ∃ b, HH (DD p) ((DD p).map C7) (Ct 0 (DD p)) n s e E T ek e1 e2 ea et bits f b := fun f hf =>
 H1 16 (Nat.le_refl _) (Se (p := []) h hl hal) f (hT f hf).ok (hT f hf).sm
theorem Pr {x : List C} (h : Cb x) : (A4 x).E.length ≤ 190 ∧ (A4 x).T.length ≤ 64 ∧ (A4 x).n ≤ 128 := by
 have h1 := Iy 16 _ _ _ 0 0 h.pok
 have h2 := h.pc
 have h3 := h1.e
 have h4 := h1.t
 have h5 := h1.hi
 unfold A4
 omega
theorem Abw {x : List C} (h : Cb x) {hs : LL} (hl : hs.length = (A4 x).T.length) : ∀ r, r ∈ (A4 x).E → EdI 0 (A4 x).n 0 hs.length r := fun r hr => by
 have := (Jo 16 _ _ _ 0 0 h.pok).ed r hr
 rw [hl]
 exact this.mono (Int.le_refl _) (Int.le_refl _) (Int.le_refl _) (by unfold A4; omega)
theorem U5 (h : Cb p) (hal : ea.length ≤ 1048576) (k1 : h1 = true → (b1.size : Int) = Be (DD p)) (k2 : h2 = true → (b2.size : Int) = Be (DD p)) {i : Nat} (hi : i < (DD p).length) : PC ((DD p).map C7) (Ct 0 (DD p)) i (Be ((DD p).take i)) (A4 ((DD p).getD i [])) ((A4 ((DD p).getD i [])).T.map nf) (Gz (DD p) ((DD p).map C7) (Ct 0 (DD p)) n s e E T ek e1 e2 ea et (Hk p n s e E T ek e1 e2 ea et h1 b1 h2 b2 i) ((A4 ((DD p).getD i [])).T.map nf)) (Hk p n s e E T ek e1 e2 ea et h1 b1 h2 b2 i) h1 b1 h2 b2 := by
 have hg := h.ded.good
 have hgi := hg _ (Eb (d := []) hi)
 have hlen : (DD p).length ≤ 63 := Nat.le_trans h.ded.len h.len
 have ea1 : ((DD p).map C7).getD i [] = C7 ((DD p).getD i []) := by simp [List.getD_eq_getElem?_getD, hi]
 have hb := F7 hg
 have ht := (F7 (Ix hg i)).1
 have hle := La hg hi
 have hshp := Jo 16 _ _ _ 0 0 hgi.pok
 have hbd := Pr hgi
 have hl := Ml (n := n) (s := s) (e := e) (E := E) (T := T) (ek := ek) (e1 := e1) (e2 := e2) (ea := ea) (et := et) (h1 := h1) (b1 := b1) (h2 := h2) (b2 := b2) h i
 refine ⟨by simpa using hi, by rw [M3]; exact hi, by rw [List.length_map]; omega, ?_, by rw [ea1]; rfl, by rw [ea1]; rfl, by rw [ea1]; rfl, by rw [ea1]; rfl, by rw [ea1]; rfl, ⟨ht, by rw [hl]; exact hle, fun q h0 h3 => ?_⟩, by omega, Abw hgi (by rw [Tj, List.length_map]), Ab4 16 _ _ _ 0 0, hshp.e0, hshp.e1, by omega, by omega, fun h4 => by rw [k1 h4]; exact hle, fun h4 => by rw [k2 h4]; exact hle⟩
 ·rw [M2 _ _ _ hi, Int.zero_add]; rfl
 ·have h3 : q < nst ((DD p).getD i []) := h3
  exact Afe h i (by omega) _ (by omega) (by omega)
theorem Abh (h : Cb p) (hal : ea.length ≤ 1048576) (k1 : h1 = true → (b1.size : Int) = Be (DD p)) (k2 : h2 = true → (b2.size : Int) = Be (DD p)) : Tot (fun k _ _ => (lv k).B4 (DD p) ((DD p).map C7) (Ct 0 (DD p)) n s e E T ek e1 e2 ea et h1 t1 b1 h2 t2 b2) (fun r => r = (true, ek == 2, Ee (Hk p n s e E T ek e1 e2 ea et h1 b1 h2 b2 (DD p).length))) := by
 have hg := h.ded.good
 have hlen : (DD p).length ≤ 63 := Nat.le_trans h.ded.len h.len
 have hb := F7 hg
 refine B4_up _ _ _ _ _ _ _ _ _ _ _ _ _ _ _ _ _ _ _ (Tot.congr ?_ (fun _ _ _ => B4_q ..))
 refine Tot.bind (Aa8 _ _ _ _ _ _ _ _ (DD p) C7 rfl (fun _ => rfl) hg (by omega)) fun r hr => ?_
 subst hr
 refine Tot.t (decide_eq_true hb.1) (Tot.t (decide_eq_true (Int.le_refl _)) (Tot.both (D5 Rx (by omega)) Aa7 ?_))
 refine Tot.in0 (Tot.loop (H := fun k a q v w => B4_l0 (lv k) k (DD p) ((DD p).map C7) (Ct 0 (DD p)) n s e E T ek e1 e2 ea et h1 t1 b1 h2 t2 b2 a v (DD p) ((DD p).map C7) (Ct 0 (DD p)) n s e E T ek e1 e2 ea et h1 t1 b1 h2 t2 b2 w) (n := (DD p).length) (fun i w => w = (Hk p n s e E T ek e1 e2 ea et h1 b1 h2 b2 i)) (by omega) (fun w hw => ?_) (fun i w hi hw next => ?_) _ 0 _ rfl (Nat.zero_le _) rfl)
 ·subst hw
  refine Tot.step0 (fun _ _ _ => B4_l0_q ..) ?_
  rw [List.length_map]
  exact Tot.f (decide_eq_false (by omega)) (Tot.ret rfl)
 ·subst hw
  have c := U5 (n := n) (s := s) (e := e) (E := E) (T := T) (ek := ek) (e1 := e1) (e2 := e2) (ea := ea) (et := et) h hal k1 k2 hi
  have hgi := hg _ (Eb (d := []) hi)
  refine Tot.step0 (fun _ _ _ => B4_l0_q ..) ?_
  rw [List.length_map]
  refine Tot.t (decide_eq_true (by omega)) (Tot.bind (Ady c (Agg _ _ _ _ (Aas h hal (Ml h i) (Pq hgi)) (by rw [List.length_map]; have := (Pr hgi).2.1; omega))) fun r hr => ?_)
  subst hr
  exact next _ rfl
end
section
variable {p : List C} {E T ea : LL} {n s e ek : Int} {e1 e2 et : ByteArray} {h1 t1 h2 t2 : Bool} {b1 b2 : ByteArray}
end
abbrev S3 := Bool × Bool × ByteArray
def no3 : S3 := (false, false, ⟨#[]⟩)
noncomputable def st3 (p : List C) (n s e : Int) (E T : LL) (a : List C) (x y : S3) : S3 :=
 (true, gi a 0 == 2, Ee (Hk p n s e E T (gi a 0) (gs a 1) (gs a 2) (gr a 3) (gs a 4) x.1 x.2.2 y.1 y.2.2 (DD p).length))
def OkS (p : List C) (x : S3) : Prop := x.1 = true → (x.2.2.size : Int) = Be (DD p)
noncomputable def H9 (p : List C) (l : LL) (n s e : Int) (E T : LL) : Nat → Nat → S3
 | 0, _ => no3
 | b + 1, i => if i < l.length ∧ gi (l.getD i []) 0 ≠ 3 then st3 p n s e E T (l.getD i []) (if gi (l.getD i []) 0 = 1 then H9 p l n s e E T b (i + 1) else no3) (if 0 < i then H9 p l n s e E T b (Eg l i l.length i) else no3) else no3
noncomputable def srt (p : List C) (l : LL) (n s e : Int) (E T : LL) (i : Nat) : S3 := H9 p l n s e E T (l.length + 1) i
theorem O4 (l : LL) (a : Nat) : ∀ b i : Nat, i < l.length → i < Eg l a b i := by
 intro b
 induction b with
 | zero => intro i h; exact h
 | succ b ih =>
  intro i h
  rw [Eg, if_pos h]
  split
  ·omega
  ·rcases Nat.lt_or_ge (i + 1) l.length with h2 | h2
   ·have := ih (i + 1) h2; omega
   ·have : Eg l a b (i + 1) = l.length := by
     cases b with
     | zero => rfl
     | succ b => rw [Eg, if_neg (by omega)]
    omega
section
variable {p : List C} {l : LL} {n s e : Int} {E T : LL}
theorem V4 : ∀ b b' i : Nat, l.length - i < b → l.length - i < b' → H9 p l n s e E T b i = H9 p l n s e E T b' i := by
 intro b
 induction b with
 | zero => intro b' i h; omega
 | succ b ih =>
  intro b' i h h'
  obtain ⟨b', rfl⟩ : ∃ c, b' = c + 1 := ⟨b' - 1, by omega⟩
  rw [H9, H9]
  by_cases hi : i < l.length ∧ gi (l.getD i []) 0 ≠ 3
  ·have hg := O4 l i l.length i hi.1
   rw [if_pos hi, if_pos hi, ih b' (i + 1) (by omega) (by omega), ih b' (Eg l i l.length i) (by omega) (by omega)]
  ·rw [if_neg hi, if_neg hi]
theorem N6 (i : Nat) : srt p l n s e E T i = if i < l.length ∧ gi (l.getD i []) 0 ≠ 3 then st3 p n s e E T (l.getD i []) (if gi (l.getD i []) 0 = 1 then srt p l n s e E T (i + 1) else no3) (if 0 < i then srt p l n s e E T (Eg l i l.length i) else no3) else no3 := by
 show H9 p l n s e E T (l.length + 1) i = _
 rw [H9]
 by_cases hi : i < l.length ∧ gi (l.getD i []) 0 ≠ 3
 ·have hg := O4 l i l.length i hi.1
  rw [if_pos hi, if_pos hi]
  unfold srt
  rw [V4 l.length (l.length + 1) (i + 1) (by omega) (by omega), V4 l.length (l.length + 1) (Eg l i l.length i) (by omega) (by omega)]
 ·rw [if_neg hi, if_neg hi]
theorem Nr : OkS p no3 := fun h => by cases h
theorem Afu (h : Cb p) (a : List C) (x y : S3) : OkS p (st3 p n s e E T a x y) := fun _ => by
 unfold st3
 rw [I4]
 exact Ml h _
theorem Qf (h : Cb p) (i : Nat) : OkS p (srt p l n s e E T i) := by
 rw [N6]
 split
 ·exact Afu h _ _ _
 ·exact Nr
end
structure Fp (l : LL) (i : Nat) (k : Int) (j : Nat) : Prop where
 le : i ≤ j
 jl : j ≤ l.length
 d : dp l j = k
 n : ∀ m, i ≤ m → m < j → dp l m ≠ k
theorem So {l : LL} (hd : Ga l) {a : Nat} (ha : a < l.length) (hk : gi (l.getD a []) 0 ≠ 3) : Fp l (a + 1) (dp l a) (Eg l a l.length a) := by
 have d0 := (Hu (l := l) (n := a) fun j hj => hd.2.1 j (by omega)).1
 have key : ∀ b i : Nat, l.length - i < b + 1 → a ≤ i → i ≤ l.length → (∀ m, a < m → m ≤ i → dp l a < dp l m) → Fp l (a + 1) (dp l a) (Eg l a b i) := by
  intro b
  induction b with
  | zero =>
   intro i h1 h2 h3 h4
   have e : i = l.length := by omega
   have := h4 l.length (by omega) (by omega)
   rw [hd.2.2] at this
   omega
  | succ b ih =>
   intro i h1 h2 h3 h4
   rw [Eg]
   by_cases h5 : i < l.length
   ·rw [if_pos h5]
    have hu := Hv (l := l) (n := i)
    by_cases h6 : dp l (i + 1) = dp l a
    ·rw [if_pos h6]
     exact ⟨by omega, by omega, h6, fun m hm1 hm2 => by have := h4 m (by omega) (by omega); omega⟩
    ·rw [if_neg h6]
     refine ih (i + 1) (by omega) (by omega) (by omega) fun m hm1 hm2 => ?_
     rcases Nat.lt_or_ge m (i + 1) with g | g
     ·exact h4 m hm1 (by omega)
     ·rw [show m = i + 1 by omega]
      rcases Nat.eq_or_lt_of_le h2 with e | e
      ·subst e
       rw [if_neg hk] at hu
       split at hu <;> omega
      ·have := h4 i (by omega) (by omega)
       split at hu
       ·omega
       ·split at hu <;> omega
   ·have e : i = l.length := by omega
    have := h4 l.length (by omega) (by omega)
    rw [hd.2.2] at this
    omega
 exact key l.length a (by omega) (Nat.le_refl _) (by omega) fun m h1 h2 => by omega
def c3 (x : S3) : List C := [C.bool x.1, C.bool x.2.1, C.str x.2.2]
theorem N4 {r : List C} (h : r.length = 3) (a b c : C) : ((r.set 0 a).set 1 b).set 2 c = [a, b, c] := by
 match r, h with
 | [_, _, _], _ => rfl
theorem Kg {a : LL} {i : Nat} {x : List C} (h : i < a.length) : (a.set i x).getD i [] = x := by
 rw [List.getD_eq_getElem?_getD, List.getElem?_set_self h]; rfl
theorem Nk {a : LL} {i j : Nat} {x : List C} (h : i ≠ j) : (a.set i x).getD j [] = a.getD j [] := by
 rw [List.getD_eq_getElem?_getD, List.getElem?_set_ne h, ← List.getD_eq_getElem?_getD]
theorem Ip {l : LL} {a b : Nat} (h : a ≤ b) : Bw l a ≤ Bw l b := by
 induction b with
 | zero => rw [show a = 0 by omega]; exact Nat.le_refl _
 | succ b ih =>
  rcases Nat.eq_or_lt_of_le h with e | e
  ·rw [e]; exact Nat.le_refl _
  ·have := ih (by omega)
   rw [Bw]
   split <;> omega
theorem Hc {l : LL} {i : Nat} (h : gi (l.getD i []) 0 ≠ 3) : Bw l (i + 1) = Bw l i + 1 := by rw [Bw, if_neg h]
theorem Sd {l : LL} {i : Nat} (h : gi (l.getD i []) 0 = 3) : Bw l (i + 1) = Bw l i := by rw [Bw, if_pos h]
structure WhI (p : List C) (l : LL) (n s e : Int) (E T : LL) (out v : LL) (m i : Nat) : Prop where
 ol : out.length = Bw l l.length
 o3 : ∀ j, j < out.length → (out.getD j []).length = 3
 o : ∀ j, i ≤ j → j < l.length → gi (l.getD j []) 0 ≠ 3 → out.getD (Bw l j) [] = c3 (srt p l n s e E T j)
 em : (m : Int) = dp l i + 1
 ml : m ≤ v.length
 v3 : ∀ j, j < v.length → (v.getD j []).length = 3
 b : ∀ (k : Int) (j : Nat), 0 ≤ k → k ≤ dp l i → Fp l i k j → v.getD k.toNat [] = c3 (srt p l n s e E T j)
section
variable {p : List C} {l : LL} {n s e : Int} {E T : LL} {out v : LL} {m i : Nat}
theorem Mn {j : Nat} (h : ¬ (j < l.length ∧ gi (l.getD j []) 0 ≠ 3)) : srt p l n s e E T j = no3 := by rw [N6, if_neg h]
theorem Pa {a b : LL} {j : Nat} (h : j < a.length) : (a ++ b).getD j [] = a.getD j [] := by
 rw [List.getD_eq_getElem?_getD, List.getElem?_append_left h, ← List.getD_eq_getElem?_getD]
theorem O9 {a : LL} {x : List C} : (a ++ [x]).getD a.length [] = x := by
 rw [List.getD_eq_getElem?_getD, List.getElem?_append_right (Nat.le_refl _), Nat.sub_self]; rfl
theorem WhI.close (w : WhI p l n s e E T out v m (i + 1)) (hb : Ev l l.length) (hi : i < l.length) (hk : gi (l.getD i []) 0 = 3) : WhI p l n s e E T out (v.take m ++ [c3 no3]) (m + 1) i := by
 have hu := Hv (l := l) (n := i)
 rw [if_neg (by omega), if_pos hk] at hu
 have hm := w.em
 have hml := w.ml
 have tl : (v.take m).length = m := by rw [List.length_take]; omega
 have tg : ∀ j, j < m → (v.take m).getD j [] = v.getD j [] := fun j hj => by rw [List.getD_eq_getElem?_getD, List.getElem?_take_of_lt hj, ← List.getD_eq_getElem?_getD]
 refine ⟨w.ol, w.o3, fun j hj hjl hne => ?_, by omega, by rw [List.length_append, tl]; exact Nat.le_refl _, fun j hj => ?_, fun k j hk0 hk1 hf => ?_⟩
 ·rcases Nat.eq_or_lt_of_le hj with g | g
  ·subst g; exact absurd hk hne
  ·exact w.o j (by omega) hjl hne
 ·rw [List.length_append, tl] at hj
  have hj : j < m + 1 := hj
  rcases Nat.lt_or_ge j m with g | g
  ·rw [Pa (by omega), tg j g]; exact w.v3 j (by omega)
  ·have e : j = (v.take m).length := by omega
   rw [e, O9]; rfl
 ·by_cases g : k = dp l i
  ·have e : k.toNat = (v.take m).length := by omega
   have e2 : j = i := by
    rcases Nat.eq_or_lt_of_le hf.le with h | h
    ·exact h.symm
    ·exact absurd g.symm (hf.n i (Nat.le_refl _) h)
   rw [e, O9, e2, Mn (fun h => h.2 hk)]
  ·rw [Pa (by omega), tg _ (by omega)]
   refine w.b k j hk0 (by omega) ⟨?_, hf.jl, hf.d, fun x hx => hf.n x (by omega)⟩
   rcases Nat.eq_or_lt_of_le hf.le with h | h
   ·subst h; exact absurd hf.d.symm g
   ·exact h
theorem WhI.node (w : WhI p l n s e E T out v m (i + 1)) (hb : Ev l l.length) (hi : i < l.length) (hk : gi (l.getD i []) 0 ≠ 3) {m' : Nat} (hm' : (m' : Int) = dp l i + 1) : WhI p l n s e E T (out.set (Bw l i) (c3 (srt p l n s e E T i))) (v.set (dp l i).toNat (c3 (srt p l n s e E T i))) m' i := by
 have hu := Hv (l := l) (n := i)
 rw [if_neg hk] at hu
 have hm := w.em
 have hml := w.ml
 have hcl := Ip (l := l) (show i + 1 ≤ l.length from hi)
 have hcn := Hc hk
 have hle : dp l i ≤ dp l (i + 1) := by split at hu <;> omega
 have d0 := (Hu (l := l) (n := i) fun j hj => hb j (by omega)).1
 have hol := w.ol
 refine ⟨by rw [List.length_set]; exact hol, fun j hj => ?_, fun j hj hjl hne => ?_, hm', by rw [List.length_set]; omega, fun j hj => ?_, fun k j hk0 hk1 hf => ?_⟩
 ·rw [List.length_set] at hj
  by_cases g : Bw l i = j
  ·subst g; rw [Kg hj]; rfl
  ·rw [Nk g]; exact w.o3 j hj
 ·rcases Nat.eq_or_lt_of_le hj with g | g
  ·subst g; rw [Kg (by omega)]
  ·have := Ip (l := l) (show i + 1 ≤ j from g)
   rw [Nk (by omega)]
   exact w.o j (by omega) hjl hne
 ·rw [List.length_set] at hj
  by_cases g : (dp l i).toNat = j
  ·subst g; rw [Kg hj]; rfl
  ·rw [Nk g]; exact w.v3 j hj
 ·by_cases g : k = dp l i
  ·have e2 : j = i := by
    rcases Nat.eq_or_lt_of_le hf.le with h | h
    ·exact h.symm
    ·exact absurd g.symm (hf.n i (Nat.le_refl _) h)
   rw [g, Kg (by omega), e2]
  ·rw [Nk (by omega)]
   refine w.b k j hk0 (by omega) ⟨?_, hf.jl, hf.d, fun x hx => hf.n x (by omega)⟩
   rcases Nat.eq_or_lt_of_le hf.le with h | h
   ·subst h; exact absurd hf.d.symm g
   ·exact h
theorem nxt (hd : Ga l) (hi : i < l.length) (hk : gi (l.getD i []) 0 ≠ 3) : (if 0 < i then srt p l n s e E T (Eg l i l.length i) else no3) = srt p l n s e E T (Eg l i l.length i) := by
 by_cases h0 : 0 < i
 ·rw [if_pos h0]
 ·rw [if_neg h0]
  have e0 : i = 0 := by omega
  subst e0
  have hf := So hd hi hk
  have hdd : dp l (Eg l 0 l.length 0) = 0 := hf.d
  refine (Mn fun h => ?_).symm
  have := (hd.2.1 _ h.1).2.2.1 (by have := hf.le; omega)
  exact this hdd
theorem WhI.next (w : WhI p l n s e E T out v m (i + 1)) (hd : Ga l) (hi : i < l.length) (hk : gi (l.getD i []) 0 ≠ 3) : v.getD (dp l i).toNat [] = c3 (srt p l n s e E T (Eg l i l.length i)) := by
 have hu := Hv (l := l) (n := i)
 rw [if_neg hk] at hu
 have hle : dp l i ≤ dp l (i + 1) := by split at hu <;> omega
 have d0 := (Hu (l := l) (n := i) fun j hj => hd.2.1 j (by omega)).1
 exact w.b _ _ d0 hle (So hd hi hk)
theorem WhI.first (w : WhI p l n s e E T out v m (i + 1)) (hd : Ga l) (hi : i < l.length) : v.getD (dp l (i + 1)).toNat [] = c3 (srt p l n s e E T (i + 1)) := by
 have d0 := (Hu (l := l) (n := i + 1) fun j hj => hd.2.1 j (by omega)).1
 exact w.b _ _ d0 (Int.le_refl _) ⟨Nat.le_refl _, by omega, rfl, fun m h1 h2 => by omega⟩
def WhR (p : List C) (l : LL) (n s e : Int) (E T : LL) (r : LL) : Prop := r.length = Bw l l.length ∧ ∀ j, j < l.length → gi (l.getD j []) 0 ≠ 3 → r.getD (Bw l j) [] = c3 (srt p l n s e E T j)
theorem Ov : Try.prog.bytesOf 44 ≤ 1024 := of_decide_eq_true (by kernel_rfl)
theorem Ag4 (h : Cb p) (hl : SmL BB l) (hd : Ga l) : ∀ i, i ≤ l.length →
  (∀ out v, WhI p l n s e E T out v v.length i → Tot (fun k p_ _ => At_l0 (lv k) k (DD p) ((DD p).map C7) (Ct 0 (DD p)) n s e E T l p_ (Bw l i : Int) ((i : Int) - 1) out v) (WhR p l n s e E T)) ∧
  (∀ out v m, WhI p l n s e E T out v m i → Tot (fun k p_ _ => At_l3 (lv k) k (DD p) ((DD p).map C7) (Ct 0 (DD p)) n s e E T l p_ (Bw l i : Int) m ((i : Int) - 1) out v) (WhR p l n s e E T)) := by
 have hlen : l.length ≤ 1048576 := hl.1
 intro i
 induction i with
 | zero =>
  intro _
  have fin : ∀ out v m, WhI p l n s e E T out v m 0 → WhR p l n s e E T out := fun out v m w => ⟨w.ol, fun j hj hne => w.o j (Nat.zero_le _) hj hne⟩
  refine ⟨fun out v w => ?_, fun out v m w => ?_⟩
  ·refine Tot.step0 (fun _ _ _ => At_l0_q ..) ?_
   exact Tot.f (decide_eq_false (by omega)) (Tot.ret (fin _ _ _ w))
  ·refine Tot.step0 (fun _ _ _ => At_l3_q ..) ?_
   exact Tot.f (decide_eq_false (by omega)) (Tot.ret (fin _ _ _ w))
 | succ i ih =>
  intro hi
  obtain ⟨ih0, ih3⟩ := ih (by omega)
  have hi : i < l.length := hi
  rw [show (((i + 1 : Nat) : Int) - 1) = (i : Int) by omega]
  have hal : (gr (l.getD i []) 3).length ≤ 1048576 := ((hl.get i).gr 3).1
  have hcl := Ip (l := l) (show i + 1 ≤ l.length from hi)
  have hcle := Jg l l.length
  have dr := Hu (l := l) (n := i) fun j hj => hd.2.1 j (by omega)
  have dr1 := Hu (l := l) (n := i + 1) fun j hj => hd.2.1 j (by omega)
  have hu := Hv (l := l) (n := i)
  have wr : IntKind.i64.wrap ((i : Int) - 1) = (i : Int) - 1 := Ai (by omega) (by omega)
  have step : ∀ (x y : S3), gi (l.getD i []) 0 ≠ 3 → x = (if gi (l.getD i []) 0 = 1 then srt p l n s e E T (i + 1) else no3) → y = srt p l n s e E T (Eg l i l.length i) → Tot (fun k _ _ => (lv k).B4 (DD p) ((DD p).map C7) (Ct 0 (DD p)) n s e E T (gi (l.getD i []) 0) (gs (l.getD i []) 1) (gs (l.getD i []) 2) (gr (l.getD i []) 3) (gs (l.getD i []) 4) x.1 x.2.1 x.2.2 y.1 y.2.1 y.2.2) (fun r => r = srt p l n s e E T i) := fun x y hk hx hy => by
   have ox : OkS p x := by
    rw [hx]
    split
    ·exact Qf h _
    ·exact Nr
   have oy : OkS p y := by rw [hy]; exact Qf h _
   refine (Abh h hal ox oy).mono fun r hr => ?_
   rw [N6, if_pos ⟨hi, hk⟩, ← hx, nxt hd hi hk, ← hy]
   exact hr
  have l1 : ∀ out v m (x : S3) (m' : Nat), WhI p l n s e E T out v m (i + 1) → gi (l.getD i []) 0 ≠ 3 → x = (if gi (l.getD i []) 0 = 1 then srt p l n s e E T (i + 1) else no3) → (m' : Int) = dp l i + 1 → Tot (fun k p_ _ => At_l1 (lv k) k (DD p) ((DD p).map C7) (Ct 0 (DD p)) n s e E T l p_ (Bw l i : Int) m' (i : Int) (dp l i) out v x.1 x.2.1 x.2.2) (WhR p l n s e E T) := fun out v m x m' w hk hx hm' => by
   have hol := w.ol
   have hml := w.ml
   have hwm := w.em
   have hcn := Hc hk
   rw [if_neg hk] at hu
   have hle : dp l i ≤ dp l (i + 1) := by split at hu <;> omega
   refine Tot.congr ?_ (fun _ _ _ => At_l1_q ..)
   simp only [Int.toNat_natCast, Nat.zero_add, wr, N4 (w.o3 (Bw l i) (by omega)), N4 (w.v3 (dp l i).toNat (by omega)), Kg (a := out) (i := Bw l i) (by omega), List.length_set, w.next hd hi hk]
   repeat (refine Tot.t (decide_eq_true (by omega)) ?_)
   refine Tot.bind (step x (srt p l n s e E T (Eg l i l.length i)) hk hx rfl) fun r hr => ?_
   subst hr
   repeat (refine Tot.t (decide_eq_true (by omega)) ?_)
   exact ih3 _ _ _ (w.node hd.2.1 hi hk hm')
  refine ⟨fun out v w => ?_, fun out v m w => ?_⟩
  ·have hol := w.ol
   have hwm := w.em
   refine Tot.step0 (fun _ _ _ => At_l0_q ..) ?_
   rw [Int.toNat_natCast, wr]
   repeat (refine Tot.t (decide_eq_true (by omega)) ?_)
   refine Tot.cond (fun c => ?_) (fun c => ?_)
   ·have c := eq_of_beq c
    have w' := w.close hd.2.1 hi c
    refine Tot.t (D5 Ov (by omega)) ?_
    rw [List.take_length] at w'
    rw [Sd c]
    have := ih0 out (v ++ [c3 no3]) (by rw [List.length_append]; exact w')
    exact this
   ·have c := ne_of_beq_false c
    have hcn := Hc c
    rw [if_neg c] at hu
    rw [hcn, show (((Bw l i + 1 : Nat) : Int) - 1) = (Bw l i : Int) by omega, Ai (x := (Bw l i : Int)) (by omega) (by omega), Ai (x := (v.length : Int) - 1) (by omega) (by omega), show (v.length : Int) - 1 = dp l (i + 1) by omega]
    repeat (refine Tot.t (decide_eq_true (by omega)) ?_)
    refine Tot.cond (fun d => ?_) (fun d => ?_)
    ·have d := eq_of_beq d
     rw [if_pos d] at hu
     rw [Ai (x := dp l (i + 1) - 1) (by omega) (by omega), show dp l (i + 1) - 1 = dp l i by omega, w.first hd hi]
     repeat (refine Tot.t (decide_eq_true (by omega)) ?_)
     exact l1 out v v.length (srt p l n s e E T (i + 1)) _ w c (by rw [if_pos d]) (by omega)
    ·have d := ne_of_beq_false d
     rw [if_neg d] at hu
     rw [hu]
     refine Tot.congr ?_ (fun _ _ _ => At_l2_q ..)
     simp only [Int.toNat_natCast, Nat.zero_add, wr, N4 (w.o3 (Bw l i) (by omega)), N4 (w.v3 (dp l i).toNat (by omega)), Kg (a := out) (i := Bw l i) (by omega), List.length_set, w.next hd hi c]
     repeat (refine Tot.t (decide_eq_true (by omega)) ?_)
     refine Tot.bind (step no3 (srt p l n s e E T (Eg l i l.length i)) c (by rw [if_neg d]) rfl) fun r hr => ?_
     subst hr
     repeat (refine Tot.t (decide_eq_true (by omega)) ?_)
     refine ih0 _ _ ?_
     rw [List.length_set]
     exact w.node hd.2.1 hi c (by omega)
  ·have hol := w.ol
   have hwm := w.em
   have hwl := w.ml
   refine Tot.step0 (fun _ _ _ => At_l3_q ..) ?_
   rw [Int.toNat_natCast, wr]
   repeat (refine Tot.t (decide_eq_true (by omega)) ?_)
   refine Tot.cond (fun c => ?_) (fun c => ?_)
   ·have c := eq_of_beq c
    have w' := w.close hd.2.1 hi c
    refine Tot.t (D5 Ov (by omega)) ?_
    rw [Sd c]
    have := ih0 out (v.take m ++ [c3 no3]) (by rw [show (v.take m ++ [c3 no3]).length = m + 1 by rw [List.length_append, List.length_take, Nat.min_eq_left hwl]; rfl]; exact w')
    exact this
   ·have c := ne_of_beq_false c
    have hcn := Hc c
    rw [if_neg c] at hu
    rw [hcn, show (((Bw l i + 1 : Nat) : Int) - 1) = (Bw l i : Int) by omega, Ai (x := (Bw l i : Int)) (by omega) (by omega), Ai (x := (m : Int) - 1) (by omega) (by omega), show (m : Int) - 1 = dp l (i + 1) by omega]
    repeat (refine Tot.t (decide_eq_true (by omega)) ?_)
    refine Tot.cond (fun d => ?_) (fun d => ?_)
    ·have d := eq_of_beq d
     rw [if_pos d] at hu
     rw [Ai (x := dp l (i + 1) - 1) (by omega) (by omega), show dp l (i + 1) - 1 = dp l i by omega, Nat.zero_add, w.first hd hi]
     repeat (refine Tot.t (decide_eq_true (by omega)) ?_)
     exact l1 out v m (srt p l n s e E T (i + 1)) _ w c (by rw [if_pos d]) (by omega)
    ·have d := ne_of_beq_false d
     rw [if_neg d] at hu
     rw [hu]
     exact l1 out v m no3 _ w c (by rw [if_neg d]) (by omega)
theorem Ag5 (h : Cb p) (hl : SmL BB l) (hd : Ga l) : Tot (fun k _ _ => (lv k).At (DD p) ((DD p).map C7) (Ct 0 (DD p)) n s e E T l) (WhR p l n s e E T) := by
 have hlen : l.length ≤ 1048576 := hl.1
 have hcle := Jg l l.length
 refine At_up _ _ _ _ _ _ _ _ _ (Tot.congr ?_ (fun _ _ _ => At_q ..))
 refine Tot.bind (Ag7 l hl) fun r hr => Tot.f (by rw [hr.2 hd]; rfl) (Tot.bind (Acd l hl hd.2.1) fun r2 h2 => ?_)
 rw [h2]
 refine Tot.t (decide_eq_true (by omega)) (Tot.t (decide_eq_true (by omega)) (Tot.both (D5 Ov (by omega)) (by kernel_rfl) ?_))
 rw [Int.toNat_natCast, List.length_replicate, Ai (x := (l.length : Int) - 1) (by omega) (by omega)]
 refine Tot.in0 ((Ag4 h hl hd l.length (Nat.le_refl _)).1 _ _ ⟨List.length_replicate, fun j hj => ?_, fun j h1 h2 => by omega, by rw [hd.2.2]; rfl, Nat.le_refl _, fun j hj => ?_, fun k j hk0 hk1 hf => ?_⟩)
 ·rw [List.length_replicate] at hj
  rw [List.getD_eq_getElem?_getD, List.getElem?_replicate, if_pos hj]; rfl
 ·have e : j = 0 := by have : j < 1 := hj; omega
  subst e; rfl
 ·have e1 : j = l.length := by have := hf.le; have := hf.jl; omega
  rw [hd.2.2] at hk1
  have e2 : k = 0 := by omega
  subst e1; subst e2
  rw [Mn (fun h => by have := h.1; omega)]
  rfl
end
structure WOk (L N : LL) : Prop where
 ll : L.length ≤ 40
 nl : N.length ≤ 40
 pl : ∀ i, i < N.length → 0 ≤ gi (N.getD i []) 0 ∧ gi (N.getD i []) 0 < L.length
section
variable {L N : LL}
theorem Ag3 (h : WOk L N) (at_ : Int) (h0 : 0 ≤ at_) (h1 : at_ ≤ 40) : Tot (fun k _ _ => (lv k).Bu L at_) (fun _ => True) := by
 have hl := h.ll
 refine Bu_up _ _ (Tot.congr ?_ (fun _ _ _ => Bu_q ..))
 obtain ⟨n, rfl⟩ : ∃ n : Nat, at_ = n := ⟨at_.toNat, by omega⟩
 have loop : ∀ (d i : Nat) (v : Int), 100 - i = d → i ≤ 100 → Tot (fun k p q => Bu_l0 (lv k) k L (n : Int) p v (i : Int)) (fun _ => True) := by
  intro d
  induction d with
  | zero =>
   intro i v hd hi
   refine Tot.step0 (fun _ _ _ => Bu_l0_q ..) ?_
   exact Tot.f (decide_eq_false (by omega)) (Tot.ret trivial)
  | succ d ih =>
   intro i v hd hi
   have nx : ∀ v, Tot (fun k p q => Bu_l0 (lv k) k L (n : Int) p v (IntKind.i64.wrap ((i : Int) + 1))) (fun _ => True) := fun v => by
    rw [Ai (x := (i : Int) + 1) (by omega) (by omega), show (i : Int) + 1 = ((i + 1 : Nat) : Int) by omega]
    exact ih (i + 1) v (by omega) (by omega)
   refine Tot.step0 (fun _ _ _ => Bu_l0_q ..) ?_
   refine Tot.cond (fun hc => ?_) (fun _ => Tot.ret trivial)
   have hc := of_decide_eq_true hc
   repeat (refine Tot.t (decide_eq_true (by omega)) ?_)
   refine Tot.cond (fun _ => ?_) (fun _ => ?_)
   ·repeat (refine Tot.t (decide_eq_true (by omega)) ?_)
    exact Tot.cond (fun _ => Tot.cond (fun _ => Tot.ret trivial) (fun _ => nx _)) (fun _ => Tot.cond (fun _ => Tot.ret trivial) (fun _ => nx _))
   ·repeat (refine Tot.t (decide_eq_true (by omega)) ?_)
    exact Tot.cond (fun _ => Tot.cond (fun _ => Tot.ret trivial) (fun _ => nx _)) (fun _ => Tot.cond (fun _ => Tot.ret trivial) (fun _ => nx _))
 exact Tot.in0 (loop _ n 0 rfl (by omega))
def Nd (N : LL) (r : Int) : Prop := r = -1 ∨ (0 ≤ r ∧ r < N.length)
theorem Uo (h : WOk L N) (x : Int) : Tot (fun k _ _ => (lv k).By L N x) (Nd N) := by
 have hl := h.nl
 refine By_up _ _ _ (Tot.congr ?_ (fun _ _ _ => By_q ..))
 refine Tot.in0 (Tot.loop (H := fun k p q v (_ : Unit) => By_l0 (lv k) k L N x p v) (n := N.length) (fun _ _ => True) (by omega) (fun _ _ => ?_) (fun i _ hi _ next => ?_) _ 0 () rfl (by omega) trivial)
 ·refine Tot.step0 (fun _ _ _ => By_l0_q ..) ?_
  exact Tot.f (decide_eq_false (by omega)) (Tot.ret (.inl rfl))
 ·refine Tot.step0 (fun _ _ _ => By_l0_q ..) ?_
  repeat (refine Tot.t (decide_eq_true (by omega)) ?_)
  exact Tot.cond (fun _ => Tot.ret (.inr ⟨by omega, by omega⟩)) (fun _ => next () trivial)
theorem Zy (h : WOk L N) {n : Int} (h0 : 0 ≤ n) (h1 : n < N.length) : Tot (fun k _ _ => (lv k).Cm L N n) (Nd N) := by
 have hp := h.pl n.toNat (by omega)
 refine Cm_up _ _ _ (Tot.congr ?_ (fun _ _ _ => Cm_q ..))
 repeat (refine Tot.t (decide_eq_true (by omega)) ?_)
 refine Tot.cond (fun _ => Tot.ret (.inl rfl)) (fun _ => ?_)
 repeat (refine Tot.t (decide_eq_true (by omega)) ?_)
 exact Tot.bind (Uo h _) fun r hr => Tot.ret hr
theorem Aca (h : WOk L N) {n : Int} (h0 : 0 ≤ n) (h1 : n < N.length) : Tot (fun k _ _ => (lv k).Cn L N n) (Nd N) := by
 have hp := h.pl n.toNat (by omega)
 have hl := h.ll
 refine Cn_up _ _ _ (Tot.congr ?_ (fun _ _ _ => Cn_q ..))
 refine Tot.cond (fun _ => Tot.ret (.inl rfl)) (fun _ => ?_)
 repeat (refine Tot.t (decide_eq_true (by omega)) ?_)
 exact Tot.bind (Ag3 h _ hp.1 (by omega)) fun r _ => Tot.bind (Uo h _) fun r hr => Tot.ret hr
theorem Zx (h : WOk L N) : ∃ f : Int → Int, ∀ n : Int, 0 ≤ n → n < N.length → Tot (fun k _ _ => (lv k).Cm L N n) (fun r => r = f n) ∧ Nd N (f n) := by
 have : ∀ n : Int, ∃ r : Int, 0 ≤ n → n < N.length → Tot (fun k _ _ => (lv k).Cm L N n) (fun x => x = r) ∧ Nd N r := fun n => by
  by_cases hn : 0 ≤ n ∧ n < N.length
  ·obtain ⟨r, h1, M, h2⟩ := Zy h hn.1 hn.2
   exact ⟨r, fun _ _ => ⟨⟨r, rfl, M, h2⟩, h1⟩⟩
  ·exact ⟨0, fun a b => absurd ⟨a, b⟩ hn⟩
 exact Classical.axiomOfChoice this
theorem Ab9 (h : WOk L N) : ∃ f : Int → Int, ∀ n : Int, 0 ≤ n → n < N.length → Tot (fun k _ _ => (lv k).Cn L N n) (fun r => r = f n) ∧ Nd N (f n) := by
 have : ∀ n : Int, ∃ r : Int, 0 ≤ n → n < N.length → Tot (fun k _ _ => (lv k).Cn L N n) (fun x => x = r) ∧ Nd N r := fun n => by
  by_cases hn : 0 ≤ n ∧ n < N.length
  ·obtain ⟨r, h1, M, h2⟩ := Aca h hn.1 hn.2
   exact ⟨r, fun _ _ => ⟨⟨r, rfl, M, h2⟩, h1⟩⟩
  ·exact ⟨0, fun a b => absurd ⟨a, b⟩ hn⟩
 exact Classical.axiomOfChoice this
def isI (l : LL) (x : Int) : Prop := ∃ j, j < l.length ∧ gi (l.getD j []) 0 = x
theorem Lw (l : LL) (x : Int) (hl : l.length ≤ 1000000) : Tot (fun k _ _ => (lv k).Bz l x) (fun r => r = true ↔ isI l x) := by
 refine Bz_up _ _ (Tot.congr ?_ (fun _ _ _ => Bz_q ..))
 refine Tot.in0 (Tot.loop (H := fun k p q v (_ : Unit) => Bz_l0 (lv k) k l x p v) (n := l.length) (fun i _ => ∀ j, j < i → gi (l.getD j []) 0 ≠ x) (by omega) (fun _ hh => ?_) (fun i _ hi hh next => ?_) _ 0 () rfl (by omega) (fun j hj => by omega))
 ·refine Tot.step0 (fun _ _ _ => Bz_l0_q ..) ?_
  exact Tot.f (decide_eq_false (by omega)) (Tot.ret ⟨fun e => (by cases e), fun ⟨j, a, b⟩ => absurd b (hh j a)⟩)
 ·refine Tot.step0 (fun _ _ _ => Bz_l0_q ..) ?_
  rw [Int.toNat_natCast]
  repeat (refine Tot.t (decide_eq_true (by omega)) ?_)
  refine Tot.cond (fun hc => Tot.ret ⟨fun _ => ⟨i, hi, eq_of_beq hc⟩, fun _ => rfl⟩) (fun hc => next () fun j hj => ?_)
  rcases Nat.lt_or_ge j i with g | g
  ·exact hh j g
  ·rw [show j = i by omega]
   exact ne_of_beq_false hc
def Nds (N l : LL) : Prop := ∀ r, r ∈ l → ∃ x : Int, r = [C.int .i64 x] ∧ 0 ≤ x ∧ x < N.length
open Classical in
noncomputable def D7 (w : LL) (r : List C) : LL := if isI w (gi r 0) then w else w ++ [[C.int .i64 (gi r 0)]]
theorem Zi {w : LL} {r : List C} (hw : Nds N w) (hr : 0 ≤ gi r 0 ∧ gi r 0 < N.length) : Nds N (D7 w r) := by
 unfold D7
 split
 ·exact hw
 ·intro q hq
  rcases List.mem_append.1 hq with hq | hq
  ·exact hw q hq
  ·rw [List.mem_singleton.1 hq]; exact ⟨_, rfl, hr⟩
theorem Zh {w : LL} {r : List C} : (D7 w r).length ≤ w.length + 1 := by
 unfold D7
 split <;> simp
end
section
variable {L N : LL} {a : List C} {l : LL}
theorem Lu {w m : LL} {j : Nat} (hj : j < m.length) : (m.take (j + 1)).foldl D7 w = D7 ((m.take j).foldl D7 w) (m.getD j []) := by
 rw [G7 hj, List.foldl_append]
 rfl
theorem S7 {m : LL} : ∀ {w : LL}, (m.foldl D7 w).length ≤ w.length + m.length := by
 induction m with
 | nil => intro w; exact Nat.le_refl _
 | cons x m ih =>
  intro w
  have h1 := ih (w := D7 w x)
  have h2 := Zh (w := w) (r := x)
  simp only [List.foldl_cons, List.length_cons]
  omega
theorem L2 {m : LL} (hm : Nds N m) {j : Nat} (hj : j < m.length) : 0 ≤ gi (m.getD j []) 0 ∧ gi (m.getD j []) 0 < N.length := by
 obtain ⟨x, h1, h2, h3⟩ := hm _ (Eb (d := []) hj)
 rw [h1]
 exact ⟨h2, h3⟩
theorem Kf {m : LL} : ∀ {w : LL}, Nds N w → Nds N m → Nds N (m.foldl D7 w) := by
 induction m with
 | nil => intro w hw _; exact hw
 | cons x m ih =>
  intro w hw hm
  refine ih (Zi hw ?_) fun r hr => hm r (List.mem_cons_of_mem _ hr)
  have := L2 hm (j := 0) (by simp)
  simpa using this
theorem Zj (x : List C) : D7 [] x = [[C.int .i64 (gi x 0)]] := by
 unfold D7
 rw [if_neg (fun ⟨j, hj, _⟩ => by simp at hj)]
 rfl
theorem T0 {Q : LL → Prop} {m w : LL} {i : Nat} (hl : w.length + m.length ≤ 100000) (hend : Tot (fun k p q => Ab_l13 (lv k) k L N (gi a 0) (gr a 1) (gr a 2) l p (IntKind.i64.wrap ((i : Int) + 1)) (m.foldl D7 w)) Q) : ∀ (d j : Nat) (o : LL), m.length - j = d → j ≤ m.length → o = (m.take j).foldl D7 w → Tot (fun k p q => Ab_l12 (lv k) k L N (gi a 0) (gr a 1) (gr a 2) l p q (i : Int) m (j : Int) o) Q := by
 refine Tot.loop (H := fun k p q v o => Ab_l12 (lv k) k L N (gi a 0) (gr a 1) (gr a 2) l p q (i : Int) m v o) (fun j o => o = (m.take j).foldl D7 w) (by omega) (fun o ho => ?_) (fun j o hj ho next => ?_)
 ·rw [List.take_length] at ho
  subst ho
  refine Tot.step1 (fun _ _ _ => Ab_l12_q ..) ?_
  exact Tot.f (decide_eq_false (by omega)) hend
 ·have hlo : o.length ≤ 100000 := by
   have := S7 (m := m.take j) (w := w)
   rw [ho]
   rw [List.length_take] at this
   omega
  refine Tot.step1 (fun _ _ _ => Ab_l12_q ..) ?_
  rw [Int.toNat_natCast]
  repeat (refine Tot.t (decide_eq_true (by omega)) ?_)
  refine Tot.bind (Lw o _ (by omega)) fun r hr => Tot.cond (fun hb => ?_) (fun hb => next o ?_)
  ·have hb : r = false := by simpa using hb
   repeat (refine Tot.t (decide_eq_true (by omega)) ?_)
   refine Tot.t (D5 Gx (by omega)) (next _ ?_)
   rw [Lu hj, ← ho]
   unfold D7
   rw [if_neg (fun h => by rw [hr.2 h] at hb; cases hb)]
  ·have hb : r = true := by simpa using hb
   rw [Lu hj, ← ho]
   unfold D7
   rw [if_pos (hr.1 hb)]
noncomputable def Eu (fs : Nat → LL) (w : LL) : Nat → LL
 | 0 => w
 | i + 1 => (fs i).foldl D7 (Eu fs w i)
theorem Po {fs : Nat → LL} {w : LL} (hn : (gr a 1).length ≤ 64) (hf : ∀ i, i < (gr a 1).length → Tot (fun k _ _ => (lv k).Ab L N (gi ((gr a 1).getD i []) 0) (gr ((gr a 1).getD i []) 1) (gr ((gr a 1).getD i []) 2) l) (fun r => r = fs i))
  (hl : ∀ i, i < (gr a 1).length → (Eu fs w i).length + (fs i).length ≤ 100000) : ∀ (d i : Nat) (o : LL), (gr a 1).length - i = d → i ≤ (gr a 1).length → o = Eu fs w i → Tot (fun k p q => Ab_l13 (lv k) k L N (gi a 0) (gr a 1) (gr a 2) l p (i : Int) o) (fun r => r = Eu fs w (gr a 1).length) := by
 refine Tot.loop (H := fun k p q v o => Ab_l13 (lv k) k L N (gi a 0) (gr a 1) (gr a 2) l p v o) (fun i o => o = Eu fs w i) (by omega) (fun o ho => ?_) (fun i o hi ho next => ?_)
 ·refine Tot.step0 (fun _ _ _ => Ab_l13_q ..) ?_
  exact Tot.f (decide_eq_false (by omega)) (Tot.ret ho)
 ·subst ho
  refine Tot.step0 (fun _ _ _ => Ab_l13_q ..) ?_
  rw [Int.toNat_natCast]
  repeat (refine Tot.t (decide_eq_true (by omega)) ?_)
  refine Tot.bind (hf i hi) fun r hr => ?_
  subst hr
  exact Tot.in1 (T0 (hl i hi) (next _ rfl) _ 0 _ rfl (Nat.zero_le _) rfl)
theorem T4 {fs : Nat → LL} (hn : (gr a 1).length ≤ 64) (hf : ∀ i, i < (gr a 1).length → Tot (fun k _ _ => (lv k).Ab L N (gi ((gr a 1).getD i []) 0) (gr ((gr a 1).getD i []) 1) (gr ((gr a 1).getD i []) 2) l) (fun r => r = fs i))
  (hl : ∀ i, i < (gr a 1).length → (Eu fs [] i).length + (fs i).length ≤ 100000) : ∀ (d i : Nat) (_ : Unit), (gr a 1).length - i = d → i ≤ (gr a 1).length → Eu fs [] i = [] → Tot (fun k p q => Ab_l5 (lv k) k L N (gi a 0) (gr a 1) (gr a 2) l p (i : Int)) (fun r => r = Eu fs [] (gr a 1).length) := by
 refine Tot.loop (H := fun k p q v (_ : Unit) => Ab_l5 (lv k) k L N (gi a 0) (gr a 1) (gr a 2) l p v) (fun i _ => Eu fs [] i = []) (by omega) (fun _ ho => ?_) (fun i _ hi ho next => ?_)
 ·refine Tot.step0 (fun _ _ _ => Ab_l5_q ..) ?_
  exact Tot.f (decide_eq_false (by omega)) (Tot.ret ho.symm)
 ·refine Tot.step0 (fun _ _ _ => Ab_l5_q ..) ?_
  rw [Int.toNat_natCast]
  repeat (refine Tot.t (decide_eq_true (by omega)) ?_)
  refine Tot.bind (hf i hi) fun r hr => ?_
  subst hr
  have hli := hl i hi
  rw [ho] at hli
  have hend : Tot (fun k p q => Ab_l13 (lv k) k L N (gi a 0) (gr a 1) (gr a 2) l p (IntKind.i64.wrap ((i : Int) + 1)) ((fs i).foldl D7 [])) (fun r => r = Eu fs [] (gr a 1).length) := by
   rw [Ai (x := (i : Int) + 1) (by omega) (by omega), show (i : Int) + 1 = ((i + 1 : Nat) : Int) by omega]
   exact Po hn hf hl _ (i + 1) _ rfl (by omega) (by show _ = (fs i).foldl D7 (Eu fs [] i); rw [ho])
  refine Tot.in1 (g := fun k p_ q_ => Ab_l8 (lv k) k L N (gi a 0) (gr a 1) (gr a 2) l p_ q_ (i : Int) (fs i) 0) ?_
  refine Tot.step1 (fun _ _ _ => Ab_l8_q ..) ?_
  refine Tot.cond (fun h0 => ?_) (fun h0 => next () ?_)
  ·have h0 := of_decide_eq_true h0
   have h0' : 0 < (fs i).length := by omega
   repeat (refine Tot.t (decide_eq_true (by omega)) ?_)
   refine Tot.bind (Lw [] _ (by simp)) fun r hr => Tot.t ?_ ?_
   ·cases hrr : r with
    | false => rfl
    | true =>
     obtain ⟨j, hj, _⟩ := hr.1 hrr
     simp at hj
   ·repeat (refine Tot.t (decide_eq_true (by omega)) ?_)
    rw [show Int.toNat 0 = 0 from rfl, Ai (x := (0 : Int) + 1) (by omega) (by omega), show (0 : Int) + 1 = ((1 : Nat) : Int) from rfl]
    refine T0 (w := []) (by simpa using hli) hend _ 1 _ rfl (by omega) ?_
    have := Lu (w := []) h0'
    rw [Nat.zero_add] at this
    rw [this, List.take_zero, List.foldl_nil, Zj]
  ·have h0 := of_decide_eq_false h0
   have : fs i = [] := List.length_eq_zero_iff.1 (by omega)
   show (fs i).foldl D7 (Eu fs [] i) = []
   rw [ho, this]
   rfl
end
section
variable {L N : LL} {a : List C} {l : LL} {ff nf : Int → Int} {ht : Int → Bool}
def gst (op : Int) (ff nf : Int → Int) (ht : Int → Bool) (r : List C) : LL :=
 if op = 2 then (if 0 ≤ ff (gi r 0) then [[C.int .i64 (ff (gi r 0))]] else []) else if op = 3 then (if 0 ≤ nf (gi r 0) then [[C.int .i64 (nf (gi r 0))]] else []) else if op = 7 then (if ht (gi r 0) = true then [[C.int .i64 (gi r 0)]] else []) else []
theorem Aao {op : Int} {r : List C} : (gst op ff nf ht r).length ≤ 1 := by
 unfold gst
 repeat' split
 all_goals simp
theorem Pd {op : Int} : ∀ {m : LL}, (m.flatMap (gst op ff nf ht)).length ≤ m.length := by
 intro m
 induction m with
 | nil => exact Nat.le_refl _
 | cons x m ih =>
  have := Aao (op := op) (r := x) (ff := ff) (nf := nf) (ht := ht)
  simp only [List.flatMap_cons, List.length_append, List.length_cons]
  omega
structure St1 (L N : LL) (a : List C) (ff nf : Int → Int) (ht : Int → Bool) : Prop where
 f : ∀ n : Int, 0 ≤ n → n < N.length → Tot (fun k _ _ => (lv k).Cm L N n) (fun r => r = ff n)
 n : ∀ n : Int, 0 ≤ n → n < N.length → Tot (fun k _ _ => (lv k).Cn L N n) (fun r => r = nf n)
 h : gi a 0 = 7 → 0 < (gr a 2).length ∧ ∀ n : Int, 0 ≤ n → n < N.length → Tot (fun k _ _ => (lv k).A7 L N (gi ((gr a 2).getD 0 []) 0) (gs ((gr a 2).getD 0 []) 1) (gs ((gr a 2).getD 0 []) 2) (gs ((gr a 2).getD 0 []) 3) (gr ((gr a 2).getD 0 []) 4) (gr ((gr a 2).getD 0 []) 5) n) (fun r => r = ht n)
theorem Abi {Q : LL → Prop} {w : LL} (h : St1 L N a ff nf ht) (hl : Nds N l) (hlen : w.length + l.length ≤ 100000) (hend : Tot (fun k p q => Ab_l13 (lv k) k L N (gi a 0) (gr a 1) (gr a 2) l p 0 (w ++ l.flatMap (gst (gi a 0) ff nf ht))) Q) : ∀ (d i : Nat) (o : LL), l.length - i = d → i ≤ l.length → o = w ++ (l.take i).flatMap (gst (gi a 0) ff nf ht) → Tot (fun k p q => Ab_l11 (lv k) k L N (gi a 0) (gr a 1) (gr a 2) l p (i : Int) o) Q := by
 refine Tot.loop (H := fun k p q v o => Ab_l11 (lv k) k L N (gi a 0) (gr a 1) (gr a 2) l p v o) (fun i o => o = w ++ (l.take i).flatMap (gst (gi a 0) ff nf ht)) (by omega) (fun o ho => ?_) (fun i o hi ho next => ?_)
 ·rw [List.take_length] at ho
  subst ho
  refine Tot.step0 (fun _ _ _ => Ab_l11_q ..) ?_
  exact Tot.f (decide_eq_false (by omega)) (Tot.in0 hend)
 ·obtain ⟨n0, n1⟩ := L2 hl hi
  have hlo : o.length ≤ 99999 := by
   have := Pd (op := gi a 0) (ff := ff) (nf := nf) (ht := ht) (m := l.take i)
   rw [ho, List.length_append]
   rw [List.length_take] at this
   omega
  have nx : ∀ o', o' = o ++ gst (gi a 0) ff nf ht (l.getD i []) → Tot (fun k p q => Ab_l11 (lv k) k L N (gi a 0) (gr a 1) (gr a 2) l p (IntKind.i64.wrap ((i : Int) + 1)) o') Q := fun o' h => next o' (by rw [h, ho, Gy hi, List.append_assoc])
  have n10 : gi a 0 ≠ 7 → ∀ o', o' = o ++ gst (gi a 0) ff nf ht (l.getD i []) → Tot (fun k p q => Ab_l10 (lv k) k L N (gi a 0) (gr a 1) (gr a 2) l p (i : Int) o') Q := fun h7 o' ho' => by
   refine Tot.congr ?_ (fun _ _ _ => Ab_l10_q ..)
   exact Tot.f (beq_false_of_ne h7) (nx o' ho')
  have n9 : gi a 0 ≠ 3 → gi a 0 ≠ 7 → ∀ o', o' = o ++ gst (gi a 0) ff nf ht (l.getD i []) → Tot (fun k p q => Ab_l9 (lv k) k L N (gi a 0) (gr a 1) (gr a 2) l p (i : Int) o') Q := fun h3 h7 o' ho' => by
   refine Tot.congr ?_ (fun _ _ _ => Ab_l9_q ..)
   exact Tot.f (beq_false_of_ne h3) (n10 h7 o' ho')
  refine Tot.step0 (fun _ _ _ => Ab_l11_q ..) ?_
  rw [Int.toNat_natCast]
  repeat (refine Tot.t (decide_eq_true (by omega)) ?_)
  refine Tot.cond (fun k2 => ?_) (fun k2 => ?_)
  ·have k2 : gi a 0 = 2 := eq_of_beq k2
   have hg : gst (gi a 0) ff nf ht (l.getD i []) = if 0 ≤ ff (gi (l.getD i []) 0) then [[C.int .i64 (ff (gi (l.getD i []) 0))]] else [] := by unfold gst; rw [if_pos k2]
   repeat (refine Tot.t (decide_eq_true (by omega)) ?_)
   refine Tot.bind (h.f _ n0 n1) fun r hr => ?_
   subst hr
   refine Tot.cond (fun g => ?_) (fun g => n9 (by omega) (by omega) _ ?_)
   ·repeat (refine Tot.t (decide_eq_true (by omega)) ?_)
    refine Tot.bind (h.f _ n0 n1) fun r hr => ?_
    subst hr
    refine Tot.t (D5 Gx (by omega)) (n9 (by omega) (by omega) _ ?_)
    rw [hg, if_pos (of_decide_eq_true g)]
   ·rw [hg, if_neg (of_decide_eq_false g), List.append_nil]
  ·have k2 := ne_of_beq_false k2
   refine Tot.congr ?_ (fun _ _ _ => Ab_l9_q ..)
   rw [Int.toNat_natCast]
   refine Tot.cond (fun k3 => ?_) (fun k3 => ?_)
   ·have k3 : gi a 0 = 3 := eq_of_beq k3
    have hg : gst (gi a 0) ff nf ht (l.getD i []) = if 0 ≤ nf (gi (l.getD i []) 0) then [[C.int .i64 (nf (gi (l.getD i []) 0))]] else [] := by unfold gst; rw [if_neg k2, if_pos k3]
    repeat (refine Tot.t (decide_eq_true (by omega)) ?_)
    refine Tot.bind (h.n _ n0 n1) fun r hr => ?_
    subst hr
    refine Tot.cond (fun g => ?_) (fun g => n10 (by omega) _ ?_)
    ·repeat (refine Tot.t (decide_eq_true (by omega)) ?_)
     refine Tot.bind (h.n _ n0 n1) fun r hr => ?_
     subst hr
     refine Tot.t (D5 Gx (by omega)) (n10 (by omega) _ ?_)
     rw [hg, if_pos (of_decide_eq_true g)]
    ·rw [hg, if_neg (of_decide_eq_false g), List.append_nil]
   ·have k3 := ne_of_beq_false k3
    refine Tot.congr ?_ (fun _ _ _ => Ab_l10_q ..)
    rw [Int.toNat_natCast]
    refine Tot.cond (fun k7 => ?_) (fun k7 => nx _ ?_)
    ·have k7 : gi a 0 = 7 := eq_of_beq k7
     obtain ⟨t0, hh⟩ := h.h k7
     have hg : gst (gi a 0) ff nf ht (l.getD i []) = if ht (gi (l.getD i []) 0) = true then [[C.int .i64 (gi (l.getD i []) 0)]] else [] := by unfold gst; rw [if_neg k2, if_neg k3, if_pos k7]
     repeat (refine Tot.t (decide_eq_true (by omega)) ?_)
     refine Tot.bind (hh _ n0 n1) fun r hr => ?_
     subst hr
     refine Tot.cond (fun g => ?_) (fun g => nx _ ?_)
     ·repeat (refine Tot.t (decide_eq_true (by omega)) ?_)
      refine Tot.t (D5 Gx (by omega)) (nx _ ?_)
      rw [hg, if_pos g]
     ·rw [hg, if_neg (by rw [g]; simp), List.append_nil]
    ·have k7 := ne_of_beq_false k7
     unfold gst
     rw [if_neg k2, if_neg k3, if_neg k7, List.append_nil]
theorem T2 {Q : LL → Prop} (h : St1 L N a ff nf ht) (hl : Nds N l) (hlen : l.length ≤ 99999) (hend : Tot (fun k p q => Ab_l13 (lv k) k L N (gi a 0) (gr a 1) (gr a 2) l p 0 (l.flatMap (gst (gi a 0) ff nf ht))) Q) (hend0 : l.flatMap (gst (gi a 0) ff nf ht) = [] → Tot (fun k p q => Ab_l5 (lv k) k L N (gi a 0) (gr a 1) (gr a 2) l p 0) Q) : ∀ (d i : Nat) (_ : Unit), l.length - i = d → i ≤ l.length → (l.take i).flatMap (gst (gi a 0) ff nf ht) = [] → Tot (fun k p q => Ab_l2 (lv k) k L N (gi a 0) (gr a 1) (gr a 2) l p (i : Int)) Q := by
 refine Tot.loop (H := fun k p q v (_ : Unit) => Ab_l2 (lv k) k L N (gi a 0) (gr a 1) (gr a 2) l p v) (fun i _ => (l.take i).flatMap (gst (gi a 0) ff nf ht) = []) (by omega) (fun _ ho => ?_) (fun i _ hi ho next => ?_)
 ·rw [List.take_length] at ho
  refine Tot.step0 (fun _ _ _ => Ab_l2_q ..) ?_
  exact Tot.f (decide_eq_false (by omega)) (Tot.in0 (hend0 ho))
 ·obtain ⟨n0, n1⟩ := L2 hl hi
  have go := Abi (w := []) h hl (by simpa using Nat.le_succ_of_le hlen) (by rw [List.nil_append]; exact hend)
  have nx : gst (gi a 0) ff nf ht (l.getD i []) = [] → Tot (fun k p q => Ab_l2 (lv k) k L N (gi a 0) (gr a 1) (gr a 2) l p (IntKind.i64.wrap ((i : Int) + 1))) Q := fun e => next () (by rw [Gy hi, ho, e]; rfl)
  have n11 : ∀ o, o = gst (gi a 0) ff nf ht (l.getD i []) → Tot (fun k p q => Ab_l11 (lv k) k L N (gi a 0) (gr a 1) (gr a 2) l p (IntKind.i64.wrap ((i : Int) + 1)) o) Q := fun o e => by
   rw [Ai (x := (i : Int) + 1) (by omega) (by omega), show (i : Int) + 1 = ((i + 1 : Nat) : Int) by omega]
   exact go _ (i + 1) o rfl (by omega) (by rw [e, Gy hi, ho]; rfl)
  have n10 : gi a 0 ≠ 7 → ∀ o, o = gst (gi a 0) ff nf ht (l.getD i []) → Tot (fun k p q => Ab_l10 (lv k) k L N (gi a 0) (gr a 1) (gr a 2) l p (i : Int) o) Q := fun h7 o e => by
   refine Tot.congr ?_ (fun _ _ _ => Ab_l10_q ..)
   exact Tot.f (beq_false_of_ne h7) (n11 o e)
  have n9 : gi a 0 ≠ 3 → gi a 0 ≠ 7 → ∀ o, o = gst (gi a 0) ff nf ht (l.getD i []) → Tot (fun k p q => Ab_l9 (lv k) k L N (gi a 0) (gr a 1) (gr a 2) l p (i : Int) o) Q := fun h3 h7 o e => by
   refine Tot.congr ?_ (fun _ _ _ => Ab_l9_q ..)
   exact Tot.f (beq_false_of_ne h3) (n10 h7 o e)
  have n7 : gi a 0 ≠ 7 → gst (gi a 0) ff nf ht (l.getD i []) = [] → Tot (fun k p q => Ab_l7 (lv k) k L N (gi a 0) (gr a 1) (gr a 2) l p (i : Int)) Q := fun h7 e => by
   refine Tot.congr ?_ (fun _ _ _ => Ab_l7_q ..)
   exact Tot.f (beq_false_of_ne h7) (nx e)
  have n4 : gi a 0 ≠ 3 → gi a 0 ≠ 7 → gst (gi a 0) ff nf ht (l.getD i []) = [] → Tot (fun k p q => Ab_l4 (lv k) k L N (gi a 0) (gr a 1) (gr a 2) l p (i : Int)) Q := fun h3 h7 e => by
   refine Tot.congr ?_ (fun _ _ _ => Ab_l4_q ..)
   exact Tot.f (beq_false_of_ne h3) (n7 h7 e)
  refine Tot.step0 (fun _ _ _ => Ab_l2_q ..) ?_
  rw [Int.toNat_natCast]
  repeat (refine Tot.t (decide_eq_true (by omega)) ?_)
  refine Tot.cond (fun k2 => ?_) (fun k2 => ?_)
  ·have k2 : gi a 0 = 2 := eq_of_beq k2
   have hg : gst (gi a 0) ff nf ht (l.getD i []) = if 0 ≤ ff (gi (l.getD i []) 0) then [[C.int .i64 (ff (gi (l.getD i []) 0))]] else [] := by unfold gst; rw [if_pos k2]
   repeat (refine Tot.t (decide_eq_true (by omega)) ?_)
   refine Tot.bind (h.f _ n0 n1) fun r hr => ?_
   subst hr
   refine Tot.cond (fun g => ?_) (fun g => n4 (by omega) (by omega) ?_)
   ·repeat (refine Tot.t (decide_eq_true (by omega)) ?_)
    refine Tot.bind (h.f _ n0 n1) fun r hr => ?_
    subst hr
    refine n9 (by omega) (by omega) _ ?_
    rw [hg, if_pos (of_decide_eq_true g)]
   ·rw [hg, if_neg (of_decide_eq_false g)]
  ·have k2 := ne_of_beq_false k2
   refine Tot.congr ?_ (fun _ _ _ => Ab_l4_q ..)
   rw [Int.toNat_natCast]
   refine Tot.cond (fun k3 => ?_) (fun k3 => ?_)
   ·have k3 : gi a 0 = 3 := eq_of_beq k3
    have hg : gst (gi a 0) ff nf ht (l.getD i []) = if 0 ≤ nf (gi (l.getD i []) 0) then [[C.int .i64 (nf (gi (l.getD i []) 0))]] else [] := by unfold gst; rw [if_neg k2, if_pos k3]
    repeat (refine Tot.t (decide_eq_true (by omega)) ?_)
    refine Tot.bind (h.n _ n0 n1) fun r hr => ?_
    subst hr
    refine Tot.cond (fun g => ?_) (fun g => n7 (by omega) ?_)
    ·repeat (refine Tot.t (decide_eq_true (by omega)) ?_)
     refine Tot.bind (h.n _ n0 n1) fun r hr => ?_
     subst hr
     refine n10 (by omega) _ ?_
     rw [hg, if_pos (of_decide_eq_true g)]
    ·rw [hg, if_neg (of_decide_eq_false g)]
   ·have k3 := ne_of_beq_false k3
    refine Tot.congr ?_ (fun _ _ _ => Ab_l7_q ..)
    rw [Int.toNat_natCast]
    refine Tot.cond (fun k7 => ?_) (fun k7 => nx ?_)
    ·have k7 : gi a 0 = 7 := eq_of_beq k7
     obtain ⟨t0, hh⟩ := h.h k7
     have hg : gst (gi a 0) ff nf ht (l.getD i []) = if ht (gi (l.getD i []) 0) = true then [[C.int .i64 (gi (l.getD i []) 0)]] else [] := by unfold gst; rw [if_neg k2, if_neg k3, if_pos k7]
     repeat (refine Tot.t (decide_eq_true (by omega)) ?_)
     refine Tot.bind (hh _ n0 n1) fun r hr => ?_
     subst hr
     refine Tot.cond (fun g => ?_) (fun g => nx ?_)
     ·repeat (refine Tot.t (decide_eq_true (by omega)) ?_)
      refine n11 _ ?_
      rw [hg, if_pos g]
     ·rw [hg, if_neg (by rw [g]; simp)]
    ·have k7 := ne_of_beq_false k7
     unfold gst
     rw [if_neg k2, if_neg k3, if_neg k7]
end
open Classical in
noncomputable def Fb (w : LL) : Nat → Nat
 | 0 => 0
 | n + 1 => Fb w n + (if isI w (n : Int) then 0 else 1)
theorem Pt (w : LL) : ∀ n, Fb w n ≤ n := by
 intro n
 induction n with
 | zero => exact Nat.le_refl _
 | succ n ih => unfold Fb; split <;> omega
theorem Tp {w : LL} {x y : Int} (h : isI w x) : isI (w ++ [[C.int .i64 y]]) x := by
 obtain ⟨j, a, b⟩ := h
 exact ⟨j, by simp; omega, by rw [H0, if_pos a]; exact b⟩
theorem Aa6 (w : LL) (y : Int) : isI (w ++ [[C.int .i64 y]]) y := ⟨w.length, by simp, by rw [Aaj]; rfl⟩
theorem Ab0 (w : LL) (y : Int) : ∀ n, Fb (w ++ [[C.int .i64 y]]) n ≤ Fb w n := by
 intro n
 induction n with
 | zero => exact Nat.le_refl _
 | succ n ih =>
  unfold Fb
  by_cases h : isI w (n : Int)
  ·rw [if_pos h, if_pos (Tp h)]; exact ih
  ·rw [if_neg h]; split <;> omega
theorem Ab1 {w : LL} {y : Int} (h0 : 0 ≤ y) (hn : ¬ isI w y) : ∀ n : Nat, y < n → Fb (w ++ [[C.int .i64 y]]) n < Fb w n := by
 intro n
 induction n with
 | zero => intro h; omega
 | succ n ih =>
  intro h
  have hle := Ab0 w y n
  unfold Fb
  by_cases e : y = n
  ·subst e
   rw [if_neg hn, if_pos (Aa6 w _)]
   omega
  ·have := ih (by omega)
   by_cases h : isI w (n : Int)
   ·rw [if_pos h, if_pos (Tp h)]; omega
   ·rw [if_neg h]; split <;> omega
section
variable {L N : LL} {a : List C} {l : LL}
theorem Ab5 {w : LL} {r : List C} (h : 0 ≤ gi r 0 ∧ gi r 0 < N.length) : (D7 w r).length + Fb (D7 w r) N.length ≤ w.length + Fb w N.length := by
 unfold D7
 split
 ·exact Nat.le_refl _
 ·rename_i hn
  have := Ab1 h.1 hn N.length h.2
  simp only [List.length_append, List.length_singleton]
  omega
theorem L0 : ∀ {m w : LL}, Nds N m → (m.foldl D7 w).length + Fb (m.foldl D7 w) N.length ≤ w.length + Fb w N.length := by
 intro m
 induction m with
 | nil => intro w _; exact Nat.le_refl _
 | cons x m ih =>
  intro w hm
  have h1 := ih (w := D7 w x) fun r hr => hm r (List.mem_cons_of_mem _ hr)
  have h2 := Ab5 (N := N) (w := w) (r := x) (by simpa using L2 hm (j := 0) (by simp))
  exact Nat.le_trans h1 h2
theorem T3 {Q : LL → Prop} {m w : LL} {i : Nat} (hl : w.length + m.length ≤ 100000) (hend : Tot (fun k p q => Ab_l6 (lv k) k L N (gi a 0) (gr a 1) (gr a 2) l p (IntKind.i64.wrap ((i : Int) + 1)) (m.foldl D7 w)) Q) : ∀ (d j : Nat) (o : LL), m.length - j = d → j ≤ m.length → o = (m.take j).foldl D7 w → Tot (fun k p q => Ab_l3 (lv k) k L N (gi a 0) (gr a 1) (gr a 2) l p q (i : Int) m (j : Int) o) Q := by
 refine Tot.loop (H := fun k p q v o => Ab_l3 (lv k) k L N (gi a 0) (gr a 1) (gr a 2) l p q (i : Int) m v o) (fun j o => o = (m.take j).foldl D7 w) (by omega) (fun o ho => ?_) (fun j o hj ho next => ?_)
 ·rw [List.take_length] at ho
  subst ho
  refine Tot.step1 (fun _ _ _ => Ab_l3_q ..) ?_
  exact Tot.f (decide_eq_false (by omega)) hend
 ·have hlo : o.length ≤ 100000 := by
   have := S7 (m := m.take j) (w := w)
   rw [ho]
   rw [List.length_take] at this
   omega
  refine Tot.step1 (fun _ _ _ => Ab_l3_q ..) ?_
  rw [Int.toNat_natCast]
  repeat (refine Tot.t (decide_eq_true (by omega)) ?_)
  refine Tot.bind (Lw o _ (by omega)) fun r hr => Tot.cond (fun hb => ?_) (fun hb => next o ?_)
  ·have hb : r = false := by simpa using hb
   repeat (refine Tot.t (decide_eq_true (by omega)) ?_)
   refine Tot.t (D5 Gx (by omega)) (next _ ?_)
   rw [Lu hj, ← ho]
   unfold D7
   rw [if_neg (fun h => by rw [hr.2 h] at hb; cases hb)]
  ·have hb : r = true := by simpa using hb
   rw [Lu hj, ← ho]
   unfold D7
   rw [if_pos (hr.1 hb)]
noncomputable def stR (f0 : LL → LL) : Nat → Nat → LL → LL
 | 0, _, o => o
 | k + 1, i, o => if i < o.length then stR f0 k (i + 1) ((f0 [o.getD i []]).foldl D7 o) else o
theorem Sl {o : LL} {i : Nat} (h : i < o.length) : (o.drop i).take 1 = [o.getD i []] := by
 rw [List.drop_eq_getElem_cons h, List.getD_eq_getElem?_getD, List.getElem?_eq_getElem h]
 rfl
structure Mw (L N : LL) (a : List C) (f0 : LL → LL) : Prop where
 s : 0 < (gr a 1).length
 f : ∀ x : List C, Nds N [x] → Tot (fun k _ _ => (lv k).Ab L N (gi ((gr a 1).getD 0 []) 0) (gr ((gr a 1).getD 0 []) 1) (gr ((gr a 1).getD 0 []) 2) [x]) (fun r => r = f0 [x])
 v : ∀ x : List C, Nds N [x] → Nds N (f0 [x]) ∧ (f0 [x]).length ≤ 20000
theorem Jp {o : LL} (ho : Nds N o) {i : Nat} (hi : i < o.length) : Nds N [o.getD i []] := fun r hr => by
 rw [List.mem_singleton.1 hr]
 exact ho _ (Eb hi)
theorem Abj {f0 : LL → LL} (h : Mw L N a f0) {M : Nat} (hM : M ≤ 50000) : ∀ (k i : Nat) (o : LL), Nds N o → o.length + Fb o N.length ≤ M → i ≤ M → M - i ≤ k → Tot (fun n p q => Ab_l6 (lv n) n L N (gi a 0) (gr a 1) (gr a 2) l p (i : Int) o) (fun r => r = stR f0 k i o) := by
 have hs := h.s
 intro k
 induction k with
 | zero =>
  intro i o ho hmu hi hk
  refine Tot.step0 (fun _ _ _ => Ab_l6_q ..) ?_
  exact Tot.f (decide_eq_false (by omega)) (Tot.ret rfl)
 | succ k ih =>
  intro i o ho hmu hi hk
  refine Tot.step0 (fun _ _ _ => Ab_l6_q ..) ?_
  unfold stR
  refine Tot.cond (fun hc => ?_) (fun hc => Tot.ret ?_)
  ·have hc := of_decide_eq_true hc
   have hc' : i < o.length := by omega
   obtain ⟨v1, v2⟩ := h.v _ (Jp ho hc')
   rw [if_pos hc']
   have hw : IntKind.i64.wrap ((i : Int) + 1) = ((i + 1 : Nat) : Int) := by rw [Ai (x := (i : Int) + 1) (by omega) (by omega)]; omega
   rw [hw, Int.toNat_natCast, Int.toNat_natCast, show i + 1 - i = 1 by omega, Sl hc']
   repeat (refine Tot.t (decide_eq_true (by omega)) ?_)
   refine Tot.bind (h.f _ (Jp ho hc')) fun r hr => ?_
   subst hr
   refine Tot.in1 (T3 (w := o) (m := f0 [o.getD i []]) (i := i) (by omega) ?_ _ 0 _ rfl (Nat.zero_le _) rfl)
   rw [hw]
   exact ih (i + 1) _ (Kf ho v1) (Nat.le_trans (L0 v1) hmu) (by omega) (by omega)
  ·have hc := of_decide_eq_false hc
   rw [if_neg (by omega)]
theorem T1 {f0 : LL → LL} (h : Mw L N a f0) {M : Nat} (hM : M ≤ 50000) (hM1 : 1 ≤ M) (hl : Nds N l) (hmu : l.length + Fb l N.length ≤ M) : Tot (fun n p q => Ab_l1 (lv n) n L N (gi a 0) (gr a 1) (gr a 2) l p) (fun r => r = stR f0 (M + 1) 0 l) := by
 have hs := h.s
 refine Tot.step0 (fun _ _ _ => Ab_l1_q ..) ?_
 unfold stR
 refine Tot.cond (fun hc => ?_) (fun hc => Tot.ret ?_)
 ·have hc := of_decide_eq_true hc
  have hc' : 0 < l.length := by omega
  obtain ⟨v1, v2⟩ := h.v _ (Jp hl hc')
  rw [if_pos hc', Sl hc']
  repeat (refine Tot.t (decide_eq_true (by omega)) ?_)
  refine Tot.bind (h.f _ (Jp hl hc')) fun r hr => ?_
  subst hr
  refine Tot.in1 (T3 (w := l) (m := f0 [l.getD 0 []]) (i := 0) (by omega) ?_ _ 0 _ rfl (Nat.zero_le _) rfl)
  rw [Ai (x := ((0 : Nat) : Int) + 1) (by omega) (by omega), show ((0 : Nat) : Int) + 1 = ((1 : Nat) : Int) from rfl]
  exact Abj h hM M 1 _ (Kf hl v1) (Nat.le_trans (L0 v1) hmu) hM1 (by omega)
 ·have hc := of_decide_eq_false hc
  rw [if_neg (by omega)]
end
section
variable {L N : LL}
def LD (L N : LL) (a : List C) (l r : LL) : Prop := ∀ a', Bq true a a' → Tot (fun k _ _ => (lv k).Ab L N (gi a' 0) (gr a' 1) (gr a' 2) l) (fun x => x = r)
def HD (L N : LL) (f : List C) (n : Int) (b : Bool) : Prop := ∀ f', Bq false f f' → Tot (fun k _ _ => (lv k).A7 L N (gi f' 0) (gs f' 1) (gs f' 2) (gs f' 3) (gr f' 4) (gr f' 5) n) (fun x => x = b)
def LQ (L N : LL) (d : Nat) (a : List C) (l r : LL) : Prop := LD L N a l r ∧ Nds N r ∧ r.length ≤ l.length + 41 * sz d true a
theorem Ud {l : LL} (h : WOk L N) : l.length + Fb l N.length ≤ l.length + 40 := by
 have := Pt l N.length
 have := h.nl
 omega
theorem V9 {f0 : LL → LL} (hv : ∀ x : List C, Nds N [x] → Nds N (f0 [x])) : ∀ (k i : Nat) (o : LL), Nds N o → Nds N (stR f0 k i o) := by
 intro k
 induction k with
 | zero => intro i o ho; exact ho
 | succ k ih =>
  intro i o ho
  unfold stR
  split
  ·rename_i hi
   exact ih _ _ (Kf ho (hv _ (Jp ho hi)))
  ·exact ho
theorem V8 {f0 : LL → LL} (hv : ∀ x : List C, Nds N [x] → Nds N (f0 [x])) : ∀ (k i : Nat) (o : LL), Nds N o → (stR f0 k i o).length + Fb (stR f0 k i o) N.length ≤ o.length + Fb o N.length := by
 intro k
 induction k with
 | zero => intro i o ho; exact Nat.le_refl _
 | succ k ih =>
  intro i o ho
  unfold stR
  split
  ·rename_i hi
   have h1 := hv _ (Jp ho hi)
   exact Nat.le_trans (ih _ _ (Kf ho h1)) (L0 h1)
  ·exact Nat.le_refl _
theorem Q5 {fs : Nat → LL} {w : LL} (hw : Nds N w) : ∀ n, (∀ i, i < n → Nds N (fs i)) → Nds N (Eu fs w n) := by
 intro n
 induction n with
 | zero => intro _; exact hw
 | succ n ih => intro hf; exact Kf (ih fun i hi => hf i (by omega)) (hf n (by omega))
theorem Q4 {fs : Nat → LL} {w : LL} : ∀ n, (∀ i, i < n → Nds N (fs i)) → (Eu fs w n).length + Fb (Eu fs w n) N.length ≤ w.length + Fb w N.length := by
 intro n
 induction n with
 | zero => intro _; exact Nat.le_refl _
 | succ n ih => intro hf; exact Nat.le_trans (L0 (hf n (by omega))) (ih fun i hi => hf i (by omega))
theorem Te {op : Int} {ff nf : Int → Int} {ht : Int → Bool} (hf : ∀ n : Int, 0 ≤ n → n < N.length → Nd N (ff n)) (hn : ∀ n : Int, 0 ≤ n → n < N.length → Nd N (nf n)) {l : LL} (hl : Nds N l) : Nds N (l.flatMap (gst op ff nf ht)) := by
 intro r hr
 obtain ⟨x, hx, hrx⟩ := List.mem_flatMap.1 hr
 obtain ⟨y, rfl, y0, y1⟩ := hl x hx
 have e : gi [C.int .i64 y] 0 = y := rfl
 unfold gst at hrx
 rw [e] at hrx
 split at hrx
 ·split at hrx
  ·rename_i h0
   rcases hf y y0 y1 with h | h
   ·omega
   ·rw [List.mem_singleton.1 hrx]; exact ⟨_, rfl, h⟩
  ·cases hrx
 ·split at hrx
  ·split at hrx
   ·rename_i h0
    rcases hn y y0 y1 with h | h
    ·omega
    ·rw [List.mem_singleton.1 hrx]; exact ⟨_, rfl, h⟩
   ·cases hrx
  ·split at hrx
   ·split at hrx
    ·rw [List.mem_singleton.1 hrx]; exact ⟨_, rfl, y0, y1⟩
    ·cases hrx
   ·cases hrx
theorem Yw (h : WOk L N) {d : Nat} (hd : d + 1 ≤ 16) {a : List C} (ha : ok (d + 1) true a)
  (ihp : ∀ i, i < (gr a 1).length → ∀ l, Nds N l → l.length + 41 * sz d true ((gr a 1).getD i []) ≤ 10000 → ∃ r, LQ L N d ((gr a 1).getD i []) l r)
  (ihf : ∀ i, i < (gr a 2).length → ∀ n : Int, 0 ≤ n → n < N.length → ∃ b, HD L N ((gr a 2).getD i []) n b)
  {l : LL} (hl : Nds N l) (hb : l.length + 41 * sz (d + 1) true a ≤ 10000) : ∃ r, LQ L N (d + 1) a l r := by
 obtain ⟨h1, h7, h45, h6, h77, ht1, h64, h0, h9, h10⟩ := ha
 have esz : sz (d + 1) true a = 1 + ((gr a 1).map (sz d true)).sum + ((gr a 2).map (sz d false)).sum := rfl
 have hsz : 1 ≤ sz (d + 1) true a := by omega
 have hsub : ∀ i, i < (gr a 1).length → sz d true ((gr a 1).getD i []) + 1 ≤ sz (d + 1) true a := fun i hi => by
  have := Hm (f := sz d true) hi
  omega
 have hN := h.nl
 have hmu := Ud (l := l) h
 obtain ⟨fs, hfs⟩ : ∃ fs : Nat → LL → LL, ∀ i, i < (gr a 1).length → ∀ l, Nds N l → l.length + 41 * sz d true ((gr a 1).getD i []) ≤ 10000 → LQ L N d ((gr a 1).getD i []) l (fs i l) := by
  have : ∀ i : Nat, ∃ f : LL → LL, i < (gr a 1).length → ∀ l, Nds N l → l.length + 41 * sz d true ((gr a 1).getD i []) ≤ 10000 → LQ L N d ((gr a 1).getD i []) l (f l) := fun i => by
   by_cases hi : i < (gr a 1).length
   ·have : ∀ l, ∃ r, Nds N l → l.length + 41 * sz d true ((gr a 1).getD i []) ≤ 10000 → LQ L N d ((gr a 1).getD i []) l r := fun l => by
     by_cases hq : Nds N l ∧ l.length + 41 * sz d true ((gr a 1).getD i []) ≤ 10000
     ·obtain ⟨r, hr⟩ := ihp i hi l hq.1 hq.2
      exact ⟨r, fun _ _ => hr⟩
     ·exact ⟨[], fun x y => absurd ⟨x, y⟩ hq⟩
    obtain ⟨f, hf⟩ := Classical.axiomOfChoice this
    exact ⟨f, fun _ => hf⟩
   ·exact ⟨fun _ => [], fun e => absurd e hi⟩
  exact Classical.axiomOfChoice this
 have al : ∀ {a'}, Bq true a a' → gi a' 0 = gi a 0 ∧ (gr a' 1).length = (gr a 1).length ∧ (gr a' 2).length = (gr a 2).length ∧ (∀ i, i < (gr a 1).length → Bq true ((gr a 1).getD i []) ((gr a' 1).getD i [])) ∧ (∀ i, i < (gr a 2).length → Bq false ((gr a 2).getD i []) ((gr a' 2).getD i [])) := fun hA => by
  cases hA with
  | path e1 e2 e3 e4 e5 => exact ⟨e1.symm, e2.symm, e3.symm, e4, e5⟩
 by_cases e1 : gi a 0 = 1
 ·refine ⟨l, fun a' hA => ?_, hl, by omega⟩
  obtain ⟨k1, _⟩ := al hA
  refine Ab_up _ _ _ _ _ _ (Tot.congr ?_ (fun _ _ _ => Ab_q ..))
  exact Tot.t (by rw [k1, e1]; rfl) (Tot.ret rfl)
 by_cases e4 : gi a 0 = 4
 ·
  let st : Nat → LL := fun i => Nat.rec l (fun i w => fs i w) i
  have hst : ∀ i, i ≤ (gr a 1).length → Nds N (st i) ∧ (st i).length ≤ l.length + 41 * (((gr a 1).take i).map (sz d true)).sum := by
   intro i
   induction i with
   | zero => intro _; exact ⟨hl, by show l.length ≤ _; omega⟩
   | succ i ih =>
    intro hi
    obtain ⟨q1, q2⟩ := ih (by omega)
    have hs1 := I7 (gr a 1) (sz d true) i [] (by omega)
    have hs2 : (((gr a 1).take (i + 1)).map (sz d true)).sum ≤ ((gr a 1).map (sz d true)).sum := by
     have := List.take_append_drop (i + 1) ((gr a 1).map (sz d true))
     have h2 : ((gr a 1).map (sz d true)).sum = (((gr a 1).map (sz d true)).take (i + 1)).sum + (((gr a 1).map (sz d true)).drop (i + 1)).sum := by rw [← List.sum_append, this]
     rw [List.map_take]
     omega
    have hs3 : ((gr a 1).map (sz d true)).sum + 1 ≤ sz (d + 1) true a := by omega
    obtain ⟨_, p2, p3⟩ := hfs i (by omega) (st i) q1 (by omega)
    exact ⟨p2, by show (fs i (st i)).length ≤ _; rw [hs1]; omega⟩
  refine ⟨st (gr a 1).length, fun a' hA => ?_, (hst _ (Nat.le_refl _)).1, ?_⟩
  ·obtain ⟨k1, k2, k3, k4, k5⟩ := al hA
   refine Ab_up _ _ _ _ _ _ (Tot.congr ?_ (fun _ _ _ => Ab_q ..))
   refine Tot.f (by rw [k1]; exact beq_false_of_ne e1) (Tot.t (by rw [k1, e4]; rfl) ?_)
   refine Tot.in0 (Tot.loop (H := fun k p q v w => Ab_l0 (lv k) k L N (gi a' 0) (gr a' 1) (gr a' 2) l p w v) (n := (gr a 1).length) (fun i w => w = st i) (by omega) (fun w hw => ?_) (fun i w hi hw next => ?_) _ 0 l rfl (Nat.zero_le _) rfl)
   ·refine Tot.step0 (fun _ _ _ => Ab_l0_q ..) ?_
    exact Tot.f (decide_eq_false (by omega)) (Tot.ret hw)
   ·subst hw
    have hs1 := I7 (gr a 1) (sz d true) i [] hi
    obtain ⟨q1, q2⟩ := hst i (by omega)
    have hs2 : (((gr a 1).take (i + 1)).map (sz d true)).sum ≤ ((gr a 1).map (sz d true)).sum := by
     have := List.take_append_drop (i + 1) ((gr a 1).map (sz d true))
     have h2 : ((gr a 1).map (sz d true)).sum = (((gr a 1).map (sz d true)).take (i + 1)).sum + (((gr a 1).map (sz d true)).drop (i + 1)).sum := by rw [← List.sum_append, this]
     rw [List.map_take]
     omega
    have hs3 : ((gr a 1).map (sz d true)).sum + 1 ≤ sz (d + 1) true a := by omega
    obtain ⟨p1, _, _⟩ := hfs i hi (st i) q1 (by omega)
    refine Tot.step0 (fun _ _ _ => Ab_l0_q ..) ?_
    rw [Int.toNat_natCast]
    repeat (refine Tot.t (decide_eq_true (by omega)) ?_)
    refine Tot.bind (p1 _ (k4 i hi)) fun r hr => ?_
    subst hr
    exact next _ rfl
  ·have := (hst _ (Nat.le_refl _)).2
   rw [List.take_length] at this
   omega
 by_cases e6 : gi a 0 = 6
 ·have hs := h6 e6
  have h0s := hsub 0 (by omega)
  have hv : ∀ x : List C, Nds N [x] → Nds N (fs 0 [x]) := fun x hx => (hfs 0 (by omega) [x] hx (by rw [List.length_singleton]; omega)).2.1
  refine ⟨stR (fs 0) (l.length + 40 + 1) 0 l, fun a' hA => ?_, V9 hv _ _ _ hl, ?_⟩
  ·obtain ⟨k1, k2, k3, k4, k5⟩ := al hA
   have S : Mw L N a' (fs 0) := ⟨by omega, fun x hx => (hfs 0 (by omega) [x] hx (by rw [List.length_singleton]; omega)).1 _ (k4 0 (by omega)), fun x hx => ⟨hv x hx, by
    have := (hfs 0 (by omega) [x] hx (by rw [List.length_singleton]; omega)).2.2
    rw [List.length_singleton] at this
    omega⟩⟩
   refine Ab_up _ _ _ _ _ _ (Tot.congr ?_ (fun _ _ _ => Ab_q ..))
   refine Tot.f (by rw [k1]; exact beq_false_of_ne e1) (Tot.f (by rw [k1]; exact beq_false_of_ne e4) (Tot.t (by rw [k1, e6]; rfl) (Tot.t (D5 Gx (by omega)) ?_)))
   exact Tot.in0 (T1 S (M := l.length + 40) (by omega) (by omega) hl hmu)
  ·have := V8 hv (l.length + 40 + 1) 0 l hl
   omega
 obtain ⟨ff, hff⟩ := Zx h
 obtain ⟨nf, hnf⟩ := Ab9 h
 obtain ⟨ht, hht⟩ : ∃ ht : Int → Bool, gi a 0 = 7 → ∀ n : Int, 0 ≤ n → n < N.length → HD L N ((gr a 2).getD 0 []) n (ht n) := by
  by_cases e7 : gi a 0 = 7
  ·have hl2 := h77.1 e7
   have : ∀ n : Int, ∃ b : Bool, 0 ≤ n → n < N.length → HD L N ((gr a 2).getD 0 []) n b := fun n => by
    by_cases hn : 0 ≤ n ∧ n < N.length
    ·obtain ⟨b, hb⟩ := ihf 0 (by omega) n hn.1 hn.2
     exact ⟨b, fun _ _ => hb⟩
    ·exact ⟨false, fun x y => absurd ⟨x, y⟩ hn⟩
   obtain ⟨f, hf⟩ := Classical.axiomOfChoice this
   exact ⟨f, fun _ => hf⟩
  ·exact ⟨fun _ => false, fun e => absurd e e7⟩
 have hg := Te (op := gi a 0) (ht := ht) (fun n x y => (hff n x y).2) (fun n x y => (hnf n x y).2) hl
 have hgl := Pd (op := gi a 0) (ff := ff) (nf := nf) (ht := ht) (m := l)
 have hfl : ∀ i, i < (gr a 1).length → Nds N (fs i l) ∧ (fs i l).length ≤ 20000 := fun i hi => by
  have := hsub i hi
  obtain ⟨_, p2, p3⟩ := hfs i hi l hl (by omega)
  exact ⟨p2, by omega⟩
 have hal : ∀ w : LL, Nds N w → w.length ≤ l.length → ∀ i, i ≤ (gr a 1).length → (Eu (fun i => fs i l) w i).length ≤ l.length + 40 := fun w _ hw i hi => by
  have h1 := Q4 (N := N) (fs := fun i => fs i l) (w := w) i (fun j hj => (hfl j (by omega)).1)
  have h2 := Pt w N.length
  omega
 refine ⟨Eu (fun i => fs i l) (l.flatMap (gst (gi a 0) ff nf ht)) (gr a 1).length, fun a' hA => ?_, Q5 hg _ (fun i hi => (hfl i hi).1), ?_⟩
 ·obtain ⟨k1, k2, k3, k4, k5⟩ := al hA
  have S : St1 L N a' ff nf ht := ⟨fun n x y => (hff n x y).1, fun n x y => (hnf n x y).1, fun e7 => by
   rw [k1] at e7
   have hl2 := h77.1 e7
   exact ⟨by omega, fun n x y => hht e7 n x y _ (k5 0 (by omega))⟩⟩
  have hf' : ∀ i, i < (gr a' 1).length → Tot (fun k _ _ => (lv k).Ab L N (gi ((gr a' 1).getD i []) 0) (gr ((gr a' 1).getD i []) 1) (gr ((gr a' 1).getD i []) 2) l) (fun r => r = fs i l) := fun i hi => by
   have := hsub i (by omega)
   exact (hfs i (by omega) l hl (by omega)).1 _ (k4 i (by omega))
  have hlen' : ∀ w : LL, Nds N w → w.length ≤ l.length → ∀ i, i < (gr a' 1).length → (Eu (fun i => fs i l) w i).length + (fs i l).length ≤ 100000 := fun w hw hwl i hi => by
   have := hal w hw hwl i (by omega)
   have := (hfl i (by omega)).2
   omega
  refine Ab_up _ _ _ _ _ _ (Tot.congr ?_ (fun _ _ _ => Ab_q ..))
  refine Tot.f (by rw [k1]; exact beq_false_of_ne e1) (Tot.f (by rw [k1]; exact beq_false_of_ne e4) (Tot.f (by rw [k1]; exact beq_false_of_ne e6) ?_))
  rw [← k1, ← k2]
  rw [← k1] at hg hgl
  exact Tot.in0 (T2 S hl (by omega) (Po (fs := fun i => fs i l) (by omega) hf' (hlen' _ hg hgl) _ 0 _ rfl (Nat.zero_le _) rfl)
   (fun e => by
    rw [e]
    exact T4 (fs := fun i => fs i l) (by omega) hf' (hlen' _ (fun r hr => by cases hr) (Nat.zero_le _)) _ 0 () rfl (Nat.zero_le _) rfl) _ 0 () rfl (Nat.zero_le _) rfl)
 ·have := hal _ hg hgl _ (Nat.le_refl _)
  omega
end
section
variable {L N : LL}
def Aok (ea : LL) (op : Int) (n1 n2 v : ByteArray) (j : Nat) : Prop := (gs (ea.getD j []) 0 = n1 ∧ gs (ea.getD j []) 1 = n2) ∧ (op = 5 ∨ gs (ea.getD j []) 2 = v)
open Classical in
theorem Sb (h : WOk L N) (hA : ∀ i, (gr (L.getD i []) 3).length ≤ 1048576) {d : Nat} {f : List C} (hf : ok (d + 1) false f) {n : Int} (n0 : 0 ≤ n) (n1 : n < N.length) {bs : Nat → Bool}
  (hbs : ∀ i, i < (gr f 4).length → HD L N ((gr f 4).getD i []) n (bs i)) {rr : Nat → LL} (hrr : ∀ i, i < (gr f 5).length → LD L N ((gr f 5).getD i []) [[C.int .i64 n]] (rr i))
  {ev : List C} (hE : L.getD (gi (N.getD n.toNat []) 0).toNat [] = ev) : HD L N f n (Dx (gi ev 0) (gs ev 1) (gs ev 2) (gs ev 4) f bs (decide (((rr 0).length : Int) > 0)) (decide (gi ev 0 = 1 ∧ ∃ j, j < (gr ev 3).length ∧ Aok (gr ev 3) (gi f 0) (gs f 1) (gs f 2) (gs f 3) j))) := by
 obtain ⟨h1, h11, h8, h64, h910, h0, h511, h51, h9, h10⟩ := hf
 have hp := h.pl n.toNat (by omega)
 have al : ∀ {f'}, Bq false f f' → gi f' 0 = gi f 0 ∧ gs f' 1 = gs f 1 ∧ gs f' 2 = gs f 2 ∧ gs f' 3 = gs f 3 ∧ (gr f' 4).length = (gr f 4).length ∧ (gr f' 5).length = (gr f 5).length ∧ (∀ i, i < (gr f 4).length → Bq false ((gr f 4).getD i []) ((gr f' 4).getD i [])) ∧ (∀ i, i < (gr f 5).length → Bq true ((gr f 5).getD i []) ((gr f' 5).getD i [])) := fun hA => by
  cases hA with
  | filter e1 e2 e3 e4 e5 e6 e7 e8 => exact ⟨e1.symm, e2.symm, e3.symm, e4.symm, e5.symm, e6.symm, e7, e8⟩
 have hAe := hA (gi (N.getD n.toNat []) 0).toNat
 rw [hE] at hAe
 have up : ∀ {f'} {Q}, Tot _ Q → Tot (fun k _ _ => (lv k).A7 L N (gi f' 0) (gs f' 1) (gs f' 2) (gs f' 3) (gr f' 4) (gr f' 5) n) Q := fun {f'} {Q} hq => A7_up _ _ _ _ _ _ _ _ _ (Tot.congr hq (fun _ _ _ => A7_q ..))
 have hop : gi f 0 = 1 ∨ gi f 0 = 2 ∨ gi f 0 = 3 ∨ gi f 0 = 4 ∨ (gi f 0 = 5 ∨ gi f 0 = 6) ∨ gi f 0 = 7 ∨ gi f 0 = 8 ∨ (gi f 0 = 9 ∨ gi f 0 = 10) ∨ gi f 0 = 11 := by omega
 rcases hop with e_ | e_ | e_ | e_ | e_ | e_ | e_ | e_ | e_
 ·rw [show Dx (gi ev 0) (gs ev 1) (gs ev 2) (gs ev 4) f bs (decide (((rr 0).length : Int) > 0)) (decide (gi ev 0 = 1 ∧ ∃ j, j < (gr ev 3).length ∧ Aok (gr ev 3) (gi f 0) (gs f 1) (gs f 2) (gs f 3) j)) = (true) from by unfold Dx; rw [e_]; rfl]
  refine fun f' hA => up ?_
  rw [hE, (al hA).1, e_]
  repeat (refine Tot.t (decide_eq_true (by omega)) ?_)
  repeat (first | refine Tot.t (by rfl) ?_ | refine Tot.f (by rfl) ?_)
  exact Tot.ret rfl
 ·rw [show Dx (gi ev 0) (gs ev 1) (gs ev 2) (gs ev 4) f bs (decide (((rr 0).length : Int) > 0)) (decide (gi ev 0 = 1 ∧ ∃ j, j < (gr ev 3).length ∧ Aok (gr ev 3) (gi f 0) (gs f 1) (gs f 2) (gs f 3) j)) = (gi ev 0 == 1) from by unfold Dx; rw [e_]; rfl]
  refine fun f' hA => up ?_
  rw [hE, (al hA).1, e_]
  repeat (refine Tot.t (decide_eq_true (by omega)) ?_)
  repeat (first | refine Tot.t (by rfl) ?_ | refine Tot.f (by rfl) ?_)
  exact Tot.ret rfl
 ·rw [show Dx (gi ev 0) (gs ev 1) (gs ev 2) (gs ev 4) f bs (decide (((rr 0).length : Int) > 0)) (decide (gi ev 0 = 1 ∧ ∃ j, j < (gr ev 3).length ∧ Aok (gr ev 3) (gi f 0) (gs f 1) (gs f 2) (gs f 3) j)) = (!(gi ev 0 == 1)) from by unfold Dx; rw [e_]; rfl]
  refine fun f' hA => up ?_
  rw [hE, (al hA).1, e_]
  repeat (refine Tot.t (decide_eq_true (by omega)) ?_)
  repeat (first | refine Tot.t (by rfl) ?_ | refine Tot.f (by rfl) ?_)
  exact Tot.ret rfl
 ·rw [show Dx (gi ev 0) (gs ev 1) (gs ev 2) (gs ev 4) f bs (decide (((rr 0).length : Int) > 0)) (decide (gi ev 0 = 1 ∧ ∃ j, j < (gr ev 3).length ∧ Aok (gr ev 3) (gi f 0) (gs f 1) (gs f 2) (gs f 3) j)) = ((gi ev 0 == 1) && ((gs ev 1 == gs f 1) && ((gs ev 2 == gs f 2) && true))) from by unfold Dx; rw [e_]; rfl]
  refine fun f' hA => up ?_
  obtain ⟨k1, k2, k3, _⟩ := al hA
  rw [hE, k1, e_, k2, k3]
  repeat (refine Tot.t (decide_eq_true (by omega)) ?_)
  repeat (first | refine Tot.t (by rfl) ?_ | refine Tot.f (by rfl) ?_)
  exact Tot.cond (fun g => Tot.ret (by rw [g]; rfl)) (fun g => Tot.ret (by rw [g]; rfl))
 ·have loop : ∀ f', Bq false f f' → Tot (fun k p q => A7_l0 (lv k) k L N (gi f' 0) (gs f' 1) (gs f' 2) (gs f' 3) (gr f' 4) (gr f' 5) n k 0) (fun r => r = decide (gi ev 0 = 1 ∧ ∃ j, j < (gr ev 3).length ∧ Aok (gr ev 3) (gi f 0) (gs f 1) (gs f 2) (gs f 3) j)) := fun f' hAl => by
   obtain ⟨k1, k2, k3, k4, _⟩ := al hAl
   rw [k1, k2, k3, k4]
   refine Tot.in0 (Tot.loop (H := fun k p q v (_ : Unit) => A7_l0 (lv k) k L N (gi f 0) (gs f 1) (gs f 2) (gs f 3) (gr f' 4) (gr f' 5) n p v) (n := (gr ev 3).length) (fun i _ => ¬ (gi ev 0 = 1 ∧ ∃ j, j < i ∧ Aok (gr ev 3) (gi f 0) (gs f 1) (gs f 2) (gs f 3) j)) (by omega) (fun _ hh => ?_) (fun i _ hi hh next => ?_) _ 0 () rfl (by omega) (fun ⟨_, j, hj, _⟩ => by omega))
   ·refine Tot.step0 (fun _ _ _ => A7_l0_q ..) ?_
    rw [hE]
    exact Tot.f (decide_eq_false (by omega)) (Tot.ret (decide_eq_false hh).symm)
   ·have no : ¬ (gi ev 0 = 1 ∧ Aok (gr ev 3) (gi f 0) (gs f 1) (gs f 2) (gs f 3) i) → Tot (fun k p q => A7_l0 (lv k) k L N (gi f 0) (gs f 1) (gs f 2) (gs f 3) (gr f' 4) (gr f' 5) n p (IntKind.i64.wrap ((i : Int) + 1))) (fun r => r = decide (gi ev 0 = 1 ∧ ∃ j, j < (gr ev 3).length ∧ Aok (gr ev 3) (gi f 0) (gs f 1) (gs f 2) (gs f 3) j)) := fun hn => next () fun ⟨g1, j, hj, g2⟩ => by
     rcases Nat.lt_or_ge j i with g | g
     ·exact hh ⟨g1, j, g, g2⟩
     ·rw [show j = i by omega] at g2
      exact hn ⟨g1, g2⟩
    have yes : gi ev 0 = 1 → Aok (gr ev 3) (gi f 0) (gs f 1) (gs f 2) (gs f 3) i → true = decide (gi ev 0 = 1 ∧ ∃ j, j < (gr ev 3).length ∧ Aok (gr ev 3) (gi f 0) (gs f 1) (gs f 2) (gs f 3) j) := fun g1 g2 => (decide_eq_true ⟨g1, i, hi, g2⟩).symm
    refine Tot.step0 (fun _ _ _ => A7_l0_q ..) ?_
    rw [hE, Int.toNat_natCast]
    repeat (refine Tot.t (decide_eq_true (by omega)) ?_)
    refine Tot.cond (fun c1 => ?_) (fun c1 => no fun g => ne_of_beq_false c1 g.1)
    have c1 : gi ev 0 = 1 := eq_of_beq c1
    repeat (refine Tot.t (decide_eq_true (by omega)) ?_)
    refine Tot.cond (fun c2 => ?_) (fun c2 => no fun g => by rw [Fx.2 g.2.1] at c2; cases c2)
    have c2 := Fx.1 c2
    refine Tot.cond (fun c3 => Tot.ret (yes c1 ⟨c2, .inl (eq_of_beq c3)⟩)) (fun c3 => ?_)
    have c3 := ne_of_beq_false c3
    repeat (refine Tot.t (decide_eq_true (by omega)) ?_)
    refine Tot.cond (fun c4 => Tot.ret (yes c1 ⟨c2, .inr (Fj.1 c4)⟩)) (fun c4 => no fun g => ?_)
    rcases g.2.2 with g | g
    ·exact c3 g
    ·rw [Fj.2 g] at c4; cases c4
  rw [show Dx (gi ev 0) (gs ev 1) (gs ev 2) (gs ev 4) f bs (decide (((rr 0).length : Int) > 0)) (decide (gi ev 0 = 1 ∧ ∃ j, j < (gr ev 3).length ∧ Aok (gr ev 3) (gi f 0) (gs f 1) (gs f 2) (gs f 3) j)) = (decide (gi ev 0 = 1 ∧ ∃ j, j < (gr ev 3).length ∧ Aok (gr ev 3) (gi f 0) (gs f 1) (gs f 2) (gs f 3) j)) from by unfold Dx; rcases e_ with e_ | e_ <;> rw [e_] <;> rfl]
  refine fun f' hAl => up ?_
  obtain ⟨k1, _⟩ := al hAl
  have lp := loop f' hAl
  rw [k1] at lp ⊢
  repeat (refine Tot.t (decide_eq_true (by omega)) ?_)
  rcases e_ with e_ | e_
  ·rw [e_] at lp ⊢
   repeat (first | refine Tot.t (by rfl) ?_ | refine Tot.f (by rfl) ?_)
   exact lp
  ·rw [e_] at lp ⊢
   repeat (first | refine Tot.t (by rfl) ?_ | refine Tot.f (by rfl) ?_)
   exact lp
 ·rw [show Dx (gi ev 0) (gs ev 1) (gs ev 2) (gs ev 4) f bs (decide (((rr 0).length : Int) > 0)) (decide (gi ev 0 = 1 ∧ ∃ j, j < (gr ev 3).length ∧ Aok (gr ev 3) (gi f 0) (gs f 1) (gs f 2) (gs f 3) j)) = (!(gi ev 0 == 1) && ((gs ev 4).toList == (gs f 3).toList)) from by unfold Dx; rw [e_]; rfl]
  refine fun f' hA => up ?_
  obtain ⟨k1, k2, k3, k4, _⟩ := al hA
  rw [hE, k1, e_, k4]
  repeat (refine Tot.t (decide_eq_true (by omega)) ?_)
  repeat (first | refine Tot.t (by rfl) ?_ | refine Tot.f (by rfl) ?_)
  exact Tot.cond (fun g => Tot.ret (by rw [g]; rfl)) (fun g => Tot.ret (by rw [g]; rfl))
 ·have hl := h8 e_
  rw [show Dx (gi ev 0) (gs ev 1) (gs ev 2) (gs ev 4) f bs (decide (((rr 0).length : Int) > 0)) (decide (gi ev 0 = 1 ∧ ∃ j, j < (gr ev 3).length ∧ Aok (gr ev 3) (gi f 0) (gs f 1) (gs f 2) (gs f 3) j)) = (!(bs 0)) from by unfold Dx; rw [e_]; rfl]
  refine fun f' hA => up ?_
  obtain ⟨k1, k2, k3, k4, k5, k6, k7, k8⟩ := al hA
  rw [k1, e_]
  repeat (refine Tot.t (decide_eq_true (by omega)) ?_)
  repeat (first | refine Tot.t (by rfl) ?_ | refine Tot.f (by rfl) ?_)
  repeat (refine Tot.t (decide_eq_true (by omega)) ?_)
  exact Tot.bind (hbs 0 (by omega) _ (k7 0 (by omega))) fun r hr => Tot.ret (by rw [hr])
 ·rw [show Dx (gi ev 0) (gs ev 1) (gs ev 2) (gs ev 4) f bs (decide (((rr 0).length : Int) > 0)) (decide (gi ev 0 = 1 ∧ ∃ j, j < (gr ev 3).length ∧ Aok (gr ev 3) (gi f 0) (gs f 1) (gs f 2) (gs f 3) j)) = (if gi f 0 = 10 then decide (∃ j, j < (gr f 4).length ∧ bs j = true) else decide (∀ j, j < (gr f 4).length → bs j = true)) from by unfold Dx; rcases e_ with e_ | e_ <;> rw [e_] <;> rfl]
  refine fun f' hA => up ?_
  obtain ⟨k1, k2, k3, k4, k5, k6, k7, k8⟩ := al hA
  have lp : Tot (fun k p q => A7_l1 (lv k) k L N (gi f 0) (gs f' 1) (gs f' 2) (gs f' 3) (gr f' 4) (gr f' 5) n k 0) (fun r => r = if gi f 0 = 10 then decide (∃ j, j < (gr f 4).length ∧ bs j = true) else decide (∀ j, j < (gr f 4).length → bs j = true)) := by
   refine Tot.in0 (Tot.loop (H := fun k p q v (_ : Unit) => A7_l1 (lv k) k L N (gi f 0) (gs f' 1) (gs f' 2) (gs f' 3) (gr f' 4) (gr f' 5) n p v) (n := (gr f 4).length) (fun i _ => ∀ j, j < i → bs j = !(gi f 0 == 10)) (by omega) (fun _ hh => ?_) (fun i _ hi hh next => ?_) _ 0 () rfl (by omega) (fun j hj => by omega))
   ·refine Tot.step0 (fun _ _ _ => A7_l1_q ..) ?_
    refine Tot.f (decide_eq_false (by omega)) (Tot.ret ?_)
    rcases e_ with e_ | e_
    ·rw [if_neg (by omega), e_]
     rw [e_] at hh
     exact (decide_eq_true fun j hj => hh j hj).symm
    ·rw [if_pos e_, e_]
     rw [e_] at hh
     exact (decide_eq_false fun ⟨j, hj, g⟩ => by rw [hh j hj] at g; cases g).symm
   ·refine Tot.step0 (fun _ _ _ => A7_l1_q ..) ?_
    rw [Int.toNat_natCast]
    repeat (refine Tot.t (decide_eq_true (by omega)) ?_)
    refine Tot.bind (hbs i hi _ (k7 i hi)) fun r hr => ?_
    subst hr
    refine Tot.cond (fun c => Tot.ret ?_) (fun c => next () fun j hj => ?_)
    ·have c := eq_of_beq c
     rcases e_ with e_ | e_
     ·rw [if_neg (by omega), e_]
      rw [e_] at c
      exact (decide_eq_false fun g => by rw [g i hi] at c; cases c).symm
     ·rw [if_pos e_, e_]
      rw [e_] at c
      exact (decide_eq_true ⟨i, hi, c⟩).symm
    ·rcases Nat.lt_or_ge j i with g | g
     ·exact hh j g
     ·rw [show j = i by omega]
      revert c
      cases bs i <;> cases (gi f 0 == 10) <;> simp
  rw [k1]
  repeat (refine Tot.t (decide_eq_true (by omega)) ?_)
  rcases e_ with e_ | e_
  ·rw [e_] at lp ⊢
   repeat (first | refine Tot.t (by rfl) ?_ | refine Tot.f (by rfl) ?_)
   exact lp
  ·rw [e_] at lp ⊢
   repeat (first | refine Tot.t (by rfl) ?_ | refine Tot.f (by rfl) ?_)
   exact lp
 ·have hl := h511.1 e_
  have hr := hrr 0 (by omega)
  rw [show Dx (gi ev 0) (gs ev 1) (gs ev 2) (gs ev 4) f bs (decide (((rr 0).length : Int) > 0)) (decide (gi ev 0 = 1 ∧ ∃ j, j < (gr ev 3).length ∧ Aok (gr ev 3) (gi f 0) (gs f 1) (gs f 2) (gs f 3) j)) = (decide (((rr 0).length : Int) > 0)) from by unfold Dx; rw [e_]; rfl]
  refine fun f' hA => up ?_
  obtain ⟨k1, k2, k3, k4, k5, k6, k7, k8⟩ := al hA
  rw [k1, e_]
  repeat (refine Tot.t (decide_eq_true (by omega)) ?_)
  repeat (first | refine Tot.t (by rfl) ?_ | refine Tot.f (by rfl) ?_)
  repeat (refine Tot.t (decide_eq_true (by omega)) ?_)
  exact Tot.bind (hr _ (k8 0 (by omega))) fun x hx => Tot.ret (by rw [hx])
theorem Yv (h : WOk L N) (hA : ∀ i, (gr (L.getD i []) 3).length ≤ 1048576) {d : Nat} {f : List C} (hf : ok (d + 1) false f)
  (ihf : ∀ i, i < (gr f 4).length → ∀ n : Int, 0 ≤ n → n < N.length → ∃ b, HD L N ((gr f 4).getD i []) n b)
  (ihp : ∀ i, i < (gr f 5).length → ∀ n : Int, 0 ≤ n → n < N.length → ∃ r, LD L N ((gr f 5).getD i []) [[C.int .i64 n]] r)
  {n : Int} (n0 : 0 ≤ n) (n1 : n < N.length) : ∃ b, HD L N f n b := by
 obtain ⟨bs, hbs⟩ : ∃ bs : Nat → Bool, ∀ i, i < (gr f 4).length → HD L N ((gr f 4).getD i []) n (bs i) := by
  have : ∀ i, ∃ b, i < (gr f 4).length → HD L N ((gr f 4).getD i []) n b := fun i => by
   by_cases hi : i < (gr f 4).length
   ·obtain ⟨b, hb⟩ := ihf i hi n n0 n1
    exact ⟨b, fun _ => hb⟩
   ·exact ⟨false, fun h => absurd h hi⟩
  exact Classical.axiomOfChoice this
 obtain ⟨rr, hrr⟩ : ∃ rr : Nat → LL, ∀ i, i < (gr f 5).length → LD L N ((gr f 5).getD i []) [[C.int .i64 n]] (rr i) := by
  have : ∀ i, ∃ r, i < (gr f 5).length → LD L N ((gr f 5).getD i []) [[C.int .i64 n]] r := fun i => by
   by_cases hi : i < (gr f 5).length
   ·obtain ⟨b, hb⟩ := ihp i hi n n0 n1
    exact ⟨b, fun _ => hb⟩
   ·exact ⟨[], fun h => absurd h hi⟩
  exact Classical.axiomOfChoice this
 exact ⟨_, Sb h hA hf n0 n1 hbs hrr rfl⟩
end
theorem Sa {L N : LL} (h : WOk L N) (hA : ∀ i, (gr (L.getD i []) 3).length ≤ 1048576) : ∀ d, d ≤ 16 →
  (∀ a, ok d true a → ∀ l, Nds N l → l.length + 41 * sz d true a ≤ 10000 → ∃ r, LQ L N d a l r) ∧
  (∀ f, ok d false f → 1 + 41 * sz d false f ≤ 10000 → ∀ n : Int, 0 ≤ n → n < N.length → ∃ b, HD L N f n b) := by
 intro d
 induction d with
 | zero => intro _; exact ⟨fun a h => h.elim, fun f h => h.elim⟩
 | succ d ih =>
  intro hd
  have ih := ih (by omega)
  constructor
  ·intro a ha l hl hb
   have ha' := ha
   obtain ⟨_, _, _, _, _, _, _, _, h9, h10⟩ := ha'
   have esz : sz (d + 1) true a = 1 + ((gr a 1).map (sz d true)).sum + ((gr a 2).map (sz d false)).sum := rfl
   exact Yw h hd ha (fun i hi l hl hb => ih.1 _ (h9 i hi) l hl hb) (fun i hi n n0 n1 => by
    have := Hm (f := sz d false) hi
    exact ih.2 _ (h10 i hi) (by omega) n n0 n1) hl hb
  ·intro f hf hb n n0 n1
   have hf' := hf
   obtain ⟨_, _, _, _, _, _, _, _, h9, h10⟩ := hf'
   have esz : sz (d + 1) false f = 1 + ((gr f 4).map (sz d false)).sum + ((gr f 5).map (sz d true)).sum := rfl
   exact Yv h hA hf (fun i hi n n0 n1 => by
    have := Hm (f := sz d false) hi
    exact ih.2 _ (h9 i hi) (by omega) n n0 n1) (fun i hi n n0 n1 => by
    have := Hm (f := sz d true) hi
    obtain ⟨r, hr⟩ := ih.1 _ (h10 i hi) [[C.int .i64 n]] (fun q hq => ⟨n, List.mem_singleton.1 hq, n0, n1⟩) (by rw [List.length_singleton]; omega)
    exact ⟨r, hr.1⟩) n0 n1
structure WI (L : LL) (i : Nat) (w : LL) : Prop where
 le : w.length ≤ i
 pl : ∀ j, j < w.length → 0 ≤ gi (w.getD j []) 0 ∧ gi (w.getD j []) 0 < i
 ne : ∀ m, m < i → gi (L.getD m []) 0 ≠ 3 → w ≠ []
theorem WI.skip {L w : LL} {i : Nat} (h : WI L i w) (hk : gi (L.getD i []) 0 ≠ 3 → w ≠ []) : WI L (i + 1) w := ⟨by have := h.le; omega, fun j hj => by have := h.pl j hj; omega, fun m hm hm3 => by
 rcases Nat.lt_or_ge m i with g | g
 ·exact h.ne m g hm3
 ·rw [show m = i by omega] at hm3; exact hk hm3⟩
theorem Aag {L N : LL} (h : WOk L N) {a r : LL} {p : List C} {n : Int} (hr : Tot (fun k _ _ => (lv k).Ab L N (gi p 0) (gr p 1) (gr p 2) [[C.int .i64 n]]) (fun x => x = r)) (hn : Nds N r) (hrl : r.length ≤ 100000) : Tot (fun k _ _ => (lv k).Bn L N (gi p 0) (gr p 1) (gr p 2) n) (fun x => 0 < x.length ↔ 0 < r.length) := by
 have hN := h.nl
 refine Bn_up _ _ _ _ _ _ (Tot.congr ?_ (fun _ _ _ => Bn_q ..))
 refine Tot.bind hr fun x hx => ?_
 subst hx
 have l1 := Tot.loop (H := fun k u q v w => Bn_l1 (lv k) k L N (gi p 0) (gr p 1) (gr p 2) n u x v w) (Q := fun y => 0 < y.length ↔ 0 < x.length) (n := N.length) (fun i w => 0 < w.length ∧ w.length ≤ i ∧ 0 < x.length) (by omega) (fun w hw => by
  refine Tot.step0 (fun _ _ _ => Bn_l1_q ..) ?_
  exact Tot.f (decide_eq_false (by omega)) (Tot.ret ⟨fun _ => hw.2.2, fun _ => hw.1⟩)) (fun i w hi hw next => by
  refine Tot.step0 (fun _ _ _ => Bn_l1_q ..) ?_
  repeat (refine Tot.t (decide_eq_true (by omega)) ?_)
  refine Tot.bind (Lw x _ (by omega)) fun b hb => Tot.cond (fun c => Tot.t (D5 Gx (by omega)) (next _ ⟨by simp, by simp; omega, hw.2.2⟩)) (fun c => next _ ⟨hw.1, by omega, hw.2.2⟩))
 refine Tot.in0 (Tot.loop (H := fun k u q v (_ : Unit) => Bn_l0 (lv k) k L N (gi p 0) (gr p 1) (gr p 2) n u x v) (n := N.length) (fun i _ => ∀ j : Nat, j < i → ¬ isI x j) (by omega) (fun _ hh => ?_) (fun i _ hi hh next => ?_) _ 0 () rfl (by omega) (fun j hj => by omega))
 ·refine Tot.step0 (fun _ _ _ => Bn_l0_q ..) ?_
  refine Tot.f (decide_eq_false (by omega)) (Tot.ret ⟨fun e => by simp at e, fun e => ?_⟩)
  obtain ⟨q0, q1⟩ := L2 hn e
  exact absurd ⟨0, e, by omega⟩ (hh (gi (x.getD 0 []) 0).toNat (by omega))
 ·refine Tot.step0 (fun _ _ _ => Bn_l0_q ..) ?_
  repeat (refine Tot.t (decide_eq_true (by omega)) ?_)
  refine Tot.bind (Lw x _ (by omega)) fun b hb => Tot.cond (fun c => ?_) (fun c => next () fun j hj => ?_)
  ·obtain ⟨j, hj, _⟩ := hb.1 c
   have := l1 _ (i + 1) [[C.int .i64 (i : Int)]] rfl (by omega) ⟨by simp, by simp, by omega⟩
   rw [Ai (x := (i : Int) + 1) (by omega) (by omega), show ((i : Int) + 1) = ((i + 1 : Nat) : Int) by omega]
   exact this
  ·rcases Nat.lt_or_ge j i with g | g
   ·exact hh j g
   ·rw [show j = i by omega]
    intro hi'
    rw [hb.2 hi'] at c
    cases c
def Afd (ea : LL) (u v : Nat) : Prop := gs (ea.getD u []) 0 = gs (ea.getD v []) 0 ∧ gs (ea.getD u []) 1 = gs (ea.getD v []) 1
def EvU (a : List C) : Prop := (gi a 0 = 1 ∨ gi a 0 = 2 ∨ gi a 0 = 3) ∧ (gi a 0 = 1 → ∀ u v, u < v → v < (gr a 3).length → ¬ Afd (gr a 3) u v)
theorem Zd {a : List C} (h : evR a) : EvU a := by
 rcases h with ⟨h1, _, _, h4⟩ | ⟨h1, _⟩ | ⟨h1, _⟩
 ·exact ⟨.inl h1, fun _ u v huv hv => (h4.1 v hv).2.2 u huv⟩
 ·exact ⟨.inr (.inl h1), fun e => by omega⟩
 ·exact ⟨.inr (.inr h1), fun e => by omega⟩
theorem Tot.uniq {α : Type} {g : Nat → Nat → Nat → Option α} {r s : α} (h : Tot g (fun x => x = r)) (h' : Tot g (fun x => x = s)) : r = s := by
 obtain ⟨x, rfl, N, hx⟩ := h
 obtain ⟨y, rfl, M, hy⟩ := h'
 have h1 := hx (max N M) (max N M) (max N M) (by omega) (by omega) (by omega)
 have h2 := hy (max N M) (max N M) (max N M) (by omega) (by omega) (by omega)
 rw [h1] at h2
 exact Option.some.inj h2
theorem Aai {ek : Int} {e1 e2 et : ByteArray} {f : List C} {bs : Nat → Bool} {p p' x x' : Bool} (h1 : 1 ≤ gi f 0) (h11 : gi f 0 ≤ 11) (hp : gi f 0 = 11 → p = p') (hx : gi f 0 = 5 ∨ gi f 0 = 6 → x = x') : Dx ek e1 e2 et f bs p x = Dx ek e1 e2 et f bs p' x' := by
 by_cases h : gi f 0 = 11
 ·rw [hp h]; unfold Dx; rw [h]; rfl
 ·by_cases h' : gi f 0 = 5 ∨ gi f 0 = 6
  ·rw [hx h']; unfold Dx; rcases h' with h' | h' <;> rw [h'] <;> rfl
  ·have : gi f 0 = 1 ∨ gi f 0 = 2 ∨ gi f 0 = 3 ∨ gi f 0 = 4 ∨ gi f 0 = 7 ∨ gi f 0 = 8 ∨ gi f 0 = 9 ∨ gi f 0 = 10 := by omega
   unfold Dx
   rcases this with e | e | e | e | e | e | e | e <;> rw [e] <;> rfl
open Classical in
theorem X4 {ev f : List C} (hu : EvU ev) (h56 : gi f 0 = 5 ∨ gi f 0 = 6) {r : Int} (hr : Af (gr ev 3) (gs f 1) (gs f 2) r) : Eo (gi ev 0) (gr ev 3) f r = decide (gi ev 0 = 1 ∧ ∃ j, j < (gr ev 3).length ∧ Aok (gr ev 3) (gi f 0) (gs f 1) (gs f 2) (gs f 3) j) := by
 rcases hr with ⟨rfl, hn⟩ | ⟨i, rfl, hi, hp, hb⟩
 ·rw [decide_eq_false (fun ⟨_, j, hj, hA⟩ => hn j hj hA.1)]
  unfold Eo ab
  rcases h56 with e | e <;> rw [e] <;> rfl
 ·have ai : ab (gi ev 0) (i : Int) = (gi ev 0 == 1) := by unfold ab; rw [if_neg (by omega)]
  have avi : av (gr ev 3) (i : Int) = gs ((gr ev 3).getD i []) 2 := by unfold av; rw [if_neg (by omega), Int.toNat_natCast]
  unfold Eo
  rw [ai, avi]
  rcases h56 with e | e
  ·rw [if_pos e]
   by_cases h1 : gi ev 0 = 1
   ·rw [h1, decide_eq_true ⟨rfl, i, hi, hp, .inl e⟩]; rfl
   ·rw [decide_eq_false (fun h => h1 h.1)]; exact beq_false_of_ne h1
  ·rw [if_neg (by omega)]
   by_cases h1 : gi ev 0 = 1
   ·by_cases h2 : gs ((gr ev 3).getD i []) 2 = gs f 3
    ·rw [h1, decide_eq_true ⟨rfl, i, hi, hp, .inr h2⟩, Fj.2 h2]; rfl
    ·rw [decide_eq_false]
     ·rw [show ((gs ((gr ev 3).getD i []) 2).toList == (gs f 3).toList) = false from by
       cases hh : ((gs ((gr ev 3).getD i []) 2).toList == (gs f 3).toList)
       ·rfl
       ·exact absurd (Fj.1 hh) h2]
      exact Bool.and_false _
     ·rintro ⟨_, j, hj, hA1, hA2⟩
      rcases hA2 with h | h
      ·omega
      ·rcases Nat.lt_trichotomy i j with g | g | g
       ·exact hu.2 h1 i j g hj ⟨hp.1.trans hA1.1.symm, hp.2.trans hA1.2.symm⟩
       ·exact h2 (g ▸ h)
       ·exact hu.2 h1 j i g hi ⟨hA1.1.trans hp.1.symm, hA1.2.trans hp.2.symm⟩
   ·rw [decide_eq_false (fun h => h1 h.1), beq_false_of_ne h1]; rfl
theorem Aba {D B K E T L N bits : LL} {nn s e : Int} {ev : List C} (hc : Ctx D B K (gr ev 3) bits) (h : WOk L N) (hA : ∀ i, (gr (L.getD i []) 3).length ≤ 1048576) {n : Int} (n0 : 0 ≤ n) (n1 : n < N.length)
  (hE : L.getD (gi (N.getD n.toNat []) 0).toNat [] = ev) (hu : EvU ev) {mm : Nat} (hmm : mm ≤ D.length) (hbit : ∀ i : Nat, i < mm → ∃ r, LD L N (D.getD i []) [[C.int .i64 n]] r ∧ lb B K bits (i : Int) = decide ((r.length : Int) > 0)) :
  ∀ d, d ≤ 16 → ∀ f, ok d false f → SmR BB f → 1 + 41 * sz d false f ≤ 10000 → (∀ x, x ∈ inn d false f → ∃ j, j < mm ∧ Bq true (D.getD j []) x) →
   ∃ b, HH D B K nn s e E T (gi ev 0) (gs ev 1) (gs ev 2) (gr ev 3) (gs ev 4) bits f b ∧ HD L N f n b := by
 intro d
 induction d with
 | zero => intro _ f h; exact h.elim
 | succ d ih =>
  intro hd f hf hs hz hin
  have ih := ih (by omega)
  have hf' := hf
  obtain ⟨h1, h11, h8, h64, h910, h0, h511, h51, h9, h10⟩ := hf'
  have esz : sz (d + 1) false f = 1 + ((gr f 4).map (sz d false)).sum + ((gr f 5).map (sz d true)).sum := rfl
  have ein : inn (d + 1) false f = (gr f 4).flatMap (inn d false) ++ (gr f 5).flatMap (fun x => inn d true x ++ [row3 x]) := rfl
  obtain ⟨bs, hbs⟩ : ∃ bs : Nat → Bool, ∀ i, i < (gr f 4).length → HH D B K nn s e E T (gi ev 0) (gs ev 1) (gs ev 2) (gr ev 3) (gs ev 4) bits ((gr f 4).getD i []) (bs i) ∧ HD L N ((gr f 4).getD i []) n (bs i) := by
   have : ∀ i, ∃ b, i < (gr f 4).length → HH D B K nn s e E T (gi ev 0) (gs ev 1) (gs ev 2) (gr ev 3) (gs ev 4) bits ((gr f 4).getD i []) b ∧ HD L N ((gr f 4).getD i []) n b := fun i => by
    by_cases hi : i < (gr f 4).length
    ·have := Hm (f := sz d false) hi
     obtain ⟨b, hb⟩ := ih _ (h9 i hi) ((hs.gr 4).get i) (by omega) (fun x hx => hin x (by
      rw [ein]
      exact List.mem_append_left _ (List.mem_flatMap.2 ⟨_, Eb hi, hx⟩)))
     exact ⟨b, fun _ => hb⟩
    ·exact ⟨false, fun h => absurd h hi⟩
   exact Classical.axiomOfChoice this
  obtain ⟨rr, hrr⟩ : ∃ rr : Nat → LL, ∀ i, i < (gr f 5).length → LD L N ((gr f 5).getD i []) [[C.int .i64 n]] (rr i) := by
   have : ∀ i, ∃ r, i < (gr f 5).length → LD L N ((gr f 5).getD i []) [[C.int .i64 n]] r := fun i => by
    by_cases hi : i < (gr f 5).length
    ·have := Hm (f := sz d true) hi
     obtain ⟨r, hr⟩ := (Sa h hA d (by omega)).1 _ (h10 i hi) [[C.int .i64 n]] (fun q hq => ⟨n, List.mem_singleton.1 hq, n0, n1⟩) (by rw [List.length_singleton]; omega)
     exact ⟨r, fun _ => hr.1⟩
    ·exact ⟨[], fun h => absurd h hi⟩
   exact Classical.axiomOfChoice this
  obtain ⟨r, hr⟩ : ∃ r, Af (gr ev 3) (gs f 1) (gs f 2) r := Fst.ex _ _
  obtain ⟨rp, hrp⟩ := Fst.ex D.length (fun j => Bq true (D.getD j []) ((gr f 5).getD 0 []))
  have s1 := Ti (n := nn) (s := s) (e := e) (E := E) (T := T) (ek := gi ev 0) (e1 := gs ev 1) (e2 := gs ev 2) (et := gs ev 4) hc hf hs (fun i hi => (hbs i hi).1) hr hrp
  have s2 := Sb h hA hf n0 n1 (fun i hi => (hbs i hi).2) hrr hE
  refine ⟨_, s1, ?_⟩
  rw [Aai h1 h11 (fun e11 => ?_) (fun e56 => X4 hu e56 hr)]
  ·exact s2
  ·have hl := h511.1 e11
   obtain ⟨j, hj, hz2⟩ := hin (row3 ((gr f 5).getD 0 [])) (by
    rw [ein]
    exact List.mem_append_right _ (List.mem_flatMap.2 ⟨_, Eb (show 0 < (gr f 5).length by omega), List.mem_append_right _ List.mem_cons_self⟩))
   have hz3 := hz2.trans (al3 _)
   rcases hrp with ⟨_, hn⟩ | ⟨i, rfl, hi, hp, hfst⟩
   ·exact absurd hz3 (hn j (by omega))
   ·have him : i < mm := by
     rcases Nat.lt_or_ge i mm with g | g
     ·exact g
     ·exact absurd hz3 (hfst j (by omega))
    obtain ⟨q, hq1, hq2⟩ := hbit i him
    rw [hq2, Tot.uniq (hq1 _ hp) (hrr 0 (by omega) _ (Bq.refl _ _))]
section
variable {L N : LL} {ff nf : Int → Int}
def HP (L N : LL) (f : List C) (n : Int) : Prop := HD L N f n true
theorem Qt {f : List C} {n : Int} {b b' : Bool} (h : HD L N f n b) (h' : HD L N f n b') : b = b' := Tot.uniq (h _ (Bq.refl _ _)) (h' _ (Bq.refl _ _))
def LS (L N : LL) (ff nf : Int → Int) (d : Nat) (a : List C) (l r : LL) : Prop := LQ L N d a l r ∧ ∀ m, isI r m ↔ ∃ x, isI l x ∧ PR ff nf (HP L N) d a x m
theorem G0 {l : LL} {x : Int} : isI l x ↔ ∃ r, r ∈ l ∧ gi r 0 = x := by
 constructor
 ·rintro ⟨j, hj, e⟩
  exact ⟨_, Eb hj, e⟩
 ·rintro ⟨r, hr, e⟩
  obtain ⟨j, hj, rfl⟩ := Fe hr
  exact ⟨j, hj, e⟩
theorem Jk {r : List C} {x : Int} : isI [r] x ↔ gi r 0 = x := by
 rw [G0]
 exact ⟨fun ⟨q, hq, e⟩ => by rw [List.mem_singleton.1 hq] at e; exact e, fun e => ⟨r, List.mem_singleton.2 rfl, e⟩⟩
theorem Tq {a b : LL} {x : Int} : isI (a ++ b) x ↔ isI a x ∨ isI b x := by
 rw [G0, G0, G0]
 constructor
 ·rintro ⟨r, hr, e⟩
  rcases List.mem_append.1 hr with hr | hr
  ·exact .inl ⟨r, hr, e⟩
  ·exact .inr ⟨r, hr, e⟩
 ·rintro (⟨r, hr, e⟩ | ⟨r, hr, e⟩)
  ·exact ⟨r, List.mem_append_left _ hr, e⟩
  ·exact ⟨r, List.mem_append_right _ hr, e⟩
theorem Aa4 {w : LL} {r : List C} {x : Int} : isI (D7 w r) x ↔ isI w x ∨ gi r 0 = x := by
 unfold D7
 by_cases h : isI w (gi r 0)
 ·rw [if_pos h]
  exact ⟨.inl, fun hh => hh.elim id fun e => by rw [← e]; exact h⟩
 ·rw [if_neg h, Tq, Jk]
  exact Iff.rfl
theorem Nm {m : LL} : ∀ {w : LL} {x : Int}, isI (m.foldl D7 w) x ↔ isI w x ∨ isI m x := by
 induction m with
 | nil => intro w x; exact ⟨.inl, fun h => h.elim id fun ⟨j, hj, _⟩ => absurd hj (Nat.not_lt_zero _)⟩
 | cons r m ih =>
  intro w x
  rw [List.foldl_cons, ih, Aa4, show r :: m = [r] ++ m from rfl, Tq, Jk, or_assoc]
theorem Aa3 {fs : Nat → LL} {w : LL} {x : Int} : ∀ {n : Nat}, isI (Eu fs w n) x ↔ isI w x ∨ ∃ i, i < n ∧ isI (fs i) x := by
 intro n
 induction n with
 | zero => exact ⟨.inl, fun h => h.elim id fun ⟨i, hi, _⟩ => absurd hi (Nat.not_lt_zero _)⟩
 | succ n ih =>
  rw [Eu, Nm, ih]
  constructor
  ·rintro ((h | ⟨i, hi, h⟩) | h)
   ·exact .inl h
   ·exact .inr ⟨i, by omega, h⟩
   ·exact .inr ⟨n, by omega, h⟩
  ·rintro (h | ⟨i, hi, h⟩)
   ·exact .inl (.inl h)
   ·rcases Nat.lt_or_ge i n with g | g
    ·exact .inl (.inr ⟨i, g, h⟩)
    ·rw [show i = n by omega] at h; exact .inr h
theorem Ts {op : Int} {ht : Int → Bool} {r : List C} {m : Int} : isI (gst op ff nf ht r) m ↔ ((op = 2 ∧ m = ff (gi r 0) ∧ 0 ≤ ff (gi r 0)) ∨ (op = 3 ∧ m = nf (gi r 0) ∧ 0 ≤ nf (gi r 0)) ∨ (op = 7 ∧ m = gi r 0 ∧ ht (gi r 0) = true)) := by
 have emp : ¬ isI [] m := fun ⟨j, hj, _⟩ => absurd hj (Nat.not_lt_zero _)
 have one : ∀ y : Int, isI [[C.int .i64 y]] m ↔ m = y := fun y => by rw [Jk]; exact eq_comm
 unfold gst
 by_cases e2 : op = 2
 ·rw [if_pos e2]
  by_cases h : 0 ≤ ff (gi r 0)
  ·rw [if_pos h, one]
   exact ⟨fun e => .inl ⟨e2, e, h⟩, fun e => by rcases e with e | e | e <;> omega⟩
  ·rw [if_neg h]
   exact ⟨fun e => absurd e emp, fun e => by rcases e with e | e | e <;> omega⟩
 rw [if_neg e2]
 by_cases e3 : op = 3
 ·rw [if_pos e3]
  by_cases h : 0 ≤ nf (gi r 0)
  ·rw [if_pos h, one]
   exact ⟨fun e => .inr (.inl ⟨e3, e, h⟩), fun e => by rcases e with e | e | e <;> omega⟩
  ·rw [if_neg h]
   exact ⟨fun e => absurd e emp, fun e => by rcases e with e | e | e <;> omega⟩
 rw [if_neg e3]
 by_cases e7 : op = 7
 ·rw [if_pos e7]
  by_cases h : ht (gi r 0) = true
  ·rw [if_pos h, one]
   exact ⟨fun e => .inr (.inr ⟨e7, e, h⟩), fun e => by rcases e with e | e | e <;> omega⟩
  ·rw [if_neg h]
   refine ⟨fun e => absurd e emp, fun e => ?_⟩
   rcases e with e | e | e
   ·omega
   ·omega
   ·exact absurd e.2.2 h
 ·rw [if_neg e7]
  exact ⟨fun e => absurd e emp, fun e => by rcases e with e | e | e <;> omega⟩
theorem Aa5 {op : Int} {ht : Int → Bool} {l : LL} {m : Int} : isI (l.flatMap (gst op ff nf ht)) m ↔ ∃ x, isI l x ∧ ((op = 2 ∧ m = ff x ∧ 0 ≤ ff x) ∨ (op = 3 ∧ m = nf x ∧ 0 ≤ nf x) ∨ (op = 7 ∧ m = x ∧ ht x = true)) := by
 constructor
 ·intro h
  obtain ⟨r, hr, e⟩ := G0.1 h
  obtain ⟨q, hq, hr⟩ := List.mem_flatMap.1 hr
  exact ⟨gi q 0, G0.2 ⟨q, hq, rfl⟩, Ts.1 (G0.2 ⟨r, hr, e⟩)⟩
 ·rintro ⟨x, hx, h⟩
  obtain ⟨q, hq, rfl⟩ := G0.1 hx
  obtain ⟨r, hr, e⟩ := G0.1 (Ts.2 h)
  exact G0.2 ⟨r, List.mem_flatMap.2 ⟨q, hq, hr⟩, e⟩
theorem Pi {l : LL} (hl : Nds N l) {x : Int} (hx : isI l x) : 0 ≤ x ∧ x < N.length := by
 obtain ⟨r, hr, rfl⟩ := G0.1 hx
 obtain ⟨y, rfl, h⟩ := hl r hr
 exact h
theorem R9 {R : List C → Int → Int → Prop} {l m : LL} {x z : Int} : Gc R (l ++ m) x z ↔ ∃ y, Gc R l x y ∧ Gc R m y z := by
 induction l generalizing x with
 | nil => exact ⟨fun h => ⟨x, rfl, h⟩, fun ⟨y, e, h⟩ => by have e : x = y := e; rw [e]; exact h⟩
 | cons r l ih =>
  show (∃ y, R r x y ∧ Gc R (l ++ m) y z) ↔ ∃ y, (∃ w, R r x w ∧ Gc R l w y) ∧ Gc R m y z
  constructor
  ·rintro ⟨w, hw, h⟩
   obtain ⟨y, h1, h2⟩ := ih.1 h
   exact ⟨y, ⟨w, hw, h1⟩, h2⟩
  ·rintro ⟨y, ⟨w, hw, h1⟩, h2⟩
   exact ⟨w, hw, ih.2 ⟨y, h1, h2⟩⟩
theorem Aad (q : LL) : ∀ o : LL, ∃ W, q.foldl D7 o = o ++ W := by
 induction q with
 | nil => intro o; exact ⟨[], (List.append_nil _).symm⟩
 | cons r q ih =>
  intro o
  obtain ⟨W, hW⟩ := ih (D7 o r)
  rw [List.foldl_cons, hW]
  unfold D7
  split
  ·exact ⟨W, rfl⟩
  ·exact ⟨_, List.append_assoc _ _ _⟩
theorem Af2 {f0 : LL → LL} {R : Int → Int → Prop} (hv : ∀ x : List C, Nds N [x] → Nds N (f0 [x])) (hR : ∀ x : List C, Nds N [x] → ∀ m, isI (f0 [x]) m ↔ R (gi x 0) m) {M : Nat} : ∀ (k i : Nat) (o : LL), Nds N o → o.length + Fb o N.length ≤ M → i ≤ M → M < i + k → (∀ j, j < i → j < o.length → ∀ m, R (gi (o.getD j []) 0) m → isI o m) → ∀ m, isI (stR f0 k i o) m ↔ ∃ x, isI o x ∧ F3 R x m := by
 intro k
 induction k with
 | zero => intro i o _ _ h1 h2; omega
 | succ k ih =>
  intro i o ho hM hi hk hcl m
  rw [stR]
  by_cases c : i < o.length
  ·rw [if_pos c]
   have hn := Jp ho c
   have hd := hv _ hn
   have hmu := L0 (w := o) hd
   have hol : o.length ≤ M := by omega
   obtain ⟨W, hW⟩ := Aad (f0 [o.getD i []]) o
   have hget : ∀ j, j < o.length → (o ++ W).getD j [] = o.getD j [] := fun j hj => by rw [List.getD_eq_getElem?_getD, List.getElem?_append_left hj, ← List.getD_eq_getElem?_getD]
   rw [ih (i + 1) _ (Kf ho hd) (by omega) (by omega) (by omega) (fun j hj hjl m hm => ?_) m]
   ·constructor
    ·rintro ⟨x, hx, hs⟩
     rcases Nm.1 hx with hx | hx
     ·exact ⟨x, hx, hs⟩
     ·exact ⟨gi (o.getD i []) 0, ⟨i, c, rfl⟩, .step ((hR _ hn x).1 hx) hs⟩
    ·rintro ⟨x, hx, hs⟩
     exact ⟨x, Nm.2 (.inl hx), hs⟩
   ·rw [Nm]
    rw [hW, hget j (by omega)] at hm
    rcases Nat.lt_or_ge j i with g | g
    ·exact .inl (hcl j g (by omega) m hm)
    ·rw [show j = i by omega] at hm
     exact .inr ((hR _ hn m).2 hm)
  ·rw [if_neg c]
   constructor
   ·intro hm; exact ⟨m, hm, .refl m⟩
   ·rintro ⟨x, hx, hs⟩
    induction hs with
    | refl => exact hx
    | step a _ ihs =>
     obtain ⟨j, hj, e⟩ := hx
     refine ihs (hcl j (by omega) hj _ (by rw [e]; exact a))
theorem Afh (h : WOk L N) (hff : ∀ n : Int, 0 ≤ n → n < N.length → Tot (fun k _ _ => (lv k).Cm L N n) (fun r => r = ff n) ∧ Nd N (ff n)) (hnf : ∀ n : Int, 0 ≤ n → n < N.length → Tot (fun k _ _ => (lv k).Cn L N n) (fun r => r = nf n) ∧ Nd N (nf n)) {d : Nat} (hd : d + 1 ≤ 16) {a : List C} (ha : ok (d + 1) true a)
  (ihp : ∀ i, i < (gr a 1).length → ∀ l, Nds N l → l.length + 41 * sz d true ((gr a 1).getD i []) ≤ 10000 → ∃ r, LS L N ff nf d ((gr a 1).getD i []) l r)
  (ihf : ∀ i, i < (gr a 2).length → ∀ n : Int, 0 ≤ n → n < N.length → ∃ b, HD L N ((gr a 2).getD i []) n b)
  {l : LL} (hl : Nds N l) (hb : l.length + 41 * sz (d + 1) true a ≤ 10000) : ∃ r, LS L N ff nf (d + 1) a l r := by
 obtain ⟨h1, h7, h45, h6, h77, ht1, h64, h0, h9, h10⟩ := ha
 have esz : sz (d + 1) true a = 1 + ((gr a 1).map (sz d true)).sum + ((gr a 2).map (sz d false)).sum := rfl
 have hsz : 1 ≤ sz (d + 1) true a := by omega
 have hsub : ∀ i, i < (gr a 1).length → sz d true ((gr a 1).getD i []) + 1 ≤ sz (d + 1) true a := fun i hi => by
  have := Hm (f := sz d true) hi
  omega
 have hN := h.nl
 have hmu := Ud (l := l) h
 obtain ⟨fs, hfs⟩ : ∃ fs : Nat → LL → LL, ∀ i, i < (gr a 1).length → ∀ l, Nds N l → l.length + 41 * sz d true ((gr a 1).getD i []) ≤ 10000 → LS L N ff nf d ((gr a 1).getD i []) l (fs i l) := by
  have : ∀ i : Nat, ∃ f : LL → LL, i < (gr a 1).length → ∀ l, Nds N l → l.length + 41 * sz d true ((gr a 1).getD i []) ≤ 10000 → LS L N ff nf d ((gr a 1).getD i []) l (f l) := fun i => by
   by_cases hi : i < (gr a 1).length
   ·have : ∀ l, ∃ r, Nds N l → l.length + 41 * sz d true ((gr a 1).getD i []) ≤ 10000 → LS L N ff nf d ((gr a 1).getD i []) l r := fun l => by
     by_cases hq : Nds N l ∧ l.length + 41 * sz d true ((gr a 1).getD i []) ≤ 10000
     ·obtain ⟨r, hr⟩ := ihp i hi l hq.1 hq.2
      exact ⟨r, fun _ _ => hr⟩
     ·exact ⟨[], fun x y => absurd ⟨x, y⟩ hq⟩
    obtain ⟨f, hf⟩ := Classical.axiomOfChoice this
    exact ⟨f, fun _ => hf⟩
   ·exact ⟨fun _ => [], fun e => absurd e hi⟩
  exact Classical.axiomOfChoice this
 have al : ∀ {a'}, Bq true a a' → gi a' 0 = gi a 0 ∧ (gr a' 1).length = (gr a 1).length ∧ (gr a' 2).length = (gr a 2).length ∧ (∀ i, i < (gr a 1).length → Bq true ((gr a 1).getD i []) ((gr a' 1).getD i [])) ∧ (∀ i, i < (gr a 2).length → Bq false ((gr a 2).getD i []) ((gr a' 2).getD i [])) := fun hA => by
  cases hA with
  | path e1 e2 e3 e4 e5 => exact ⟨e1.symm, e2.symm, e3.symm, e4, e5⟩
 by_cases e1 : gi a 0 = 1
 ·refine ⟨l, ⟨fun a' hA => ?_, hl, by omega⟩, fun m => ?_⟩
  rotate_left
  ·have e : ∀ x, PR ff nf (HP L N) (d + 1) a x m ↔ x = m := fun x => by rw [PR, if_pos e1]
   exact ⟨fun hm => ⟨m, hm, (e m).2 rfl⟩, fun ⟨x, hx, hP⟩ => by rw [(e x).1 hP] at hx; exact hx⟩
  obtain ⟨k1, _⟩ := al hA
  refine Ab_up _ _ _ _ _ _ (Tot.congr ?_ (fun _ _ _ => Ab_q ..))
  exact Tot.t (by rw [k1, e1]; rfl) (Tot.ret rfl)
 by_cases e4 : gi a 0 = 4
 ·
  let st : Nat → LL := fun i => Nat.rec l (fun i w => fs i w) i
  have hst : ∀ i, i ≤ (gr a 1).length → (Nds N (st i) ∧ (st i).length ≤ l.length + 41 * (((gr a 1).take i).map (sz d true)).sum) ∧ ∀ m, isI (st i) m ↔ ∃ x, isI l x ∧ Gc (PR ff nf (HP L N) d) ((gr a 1).take i) x m := by
   intro i
   induction i with
   | zero => intro _; exact ⟨⟨hl, by show l.length ≤ _; omega⟩, fun m => ⟨fun hm => ⟨m, hm, rfl⟩, fun ⟨x, hx, hc⟩ => by have hc : x = m := hc; rw [hc] at hx; exact hx⟩⟩
   | succ i ih =>
    intro hi
    obtain ⟨⟨q1, q2⟩, q3⟩ := ih (by omega)
    have hs1 := I7 (gr a 1) (sz d true) i [] (by omega)
    have hs2 : (((gr a 1).take (i + 1)).map (sz d true)).sum ≤ ((gr a 1).map (sz d true)).sum := by
     have := List.take_append_drop (i + 1) ((gr a 1).map (sz d true))
     have h2 : ((gr a 1).map (sz d true)).sum = (((gr a 1).map (sz d true)).take (i + 1)).sum + (((gr a 1).map (sz d true)).drop (i + 1)).sum := by rw [← List.sum_append, this]
     rw [List.map_take]
     omega
    have hs3 : ((gr a 1).map (sz d true)).sum + 1 ≤ sz (d + 1) true a := by omega
    obtain ⟨⟨_, p2, p3⟩, p4⟩ := hfs i (by omega) (st i) q1 (by omega)
    refine ⟨⟨p2, by show (fs i (st i)).length ≤ _; rw [hs1]; omega⟩, fun m => (p4 m).trans ?_⟩
    rw [G7 (show i < (gr a 1).length by omega)]
    constructor
    ·rintro ⟨y, hy, hP⟩
     obtain ⟨x, hx, hc⟩ := (q3 y).1 hy
     exact ⟨x, hx, R9.2 ⟨y, hc, m, hP, rfl⟩⟩
    ·rintro ⟨x, hx, hc⟩
     obtain ⟨y, hc, z, hP, e⟩ := R9.1 hc
     have e : z = m := e
     rw [e] at hP
     exact ⟨y, (q3 y).2 ⟨x, hx, hc⟩, hP⟩
  refine ⟨st (gr a 1).length, ⟨fun a' hA => ?_, (hst _ (Nat.le_refl _)).1.1, ?_⟩, fun m => ?_⟩
  rotate_right
  ·have e : ∀ x, PR ff nf (HP L N) (d + 1) a x m ↔ Gc (PR ff nf (HP L N) d) (gr a 1) x m := fun x => by rw [PR, if_neg e1, if_pos e4]
   have := (hst _ (Nat.le_refl _)).2 m
   rw [List.take_length] at this
   rw [this]
   exact ⟨fun ⟨x, hx, hc⟩ => ⟨x, hx, (e x).2 hc⟩, fun ⟨x, hx, hc⟩ => ⟨x, hx, (e x).1 hc⟩⟩
  ·obtain ⟨k1, k2, k3, k4, k5⟩ := al hA
   refine Ab_up _ _ _ _ _ _ (Tot.congr ?_ (fun _ _ _ => Ab_q ..))
   refine Tot.f (by rw [k1]; exact beq_false_of_ne e1) (Tot.t (by rw [k1, e4]; rfl) ?_)
   refine Tot.in0 (Tot.loop (H := fun k p q v w => Ab_l0 (lv k) k L N (gi a' 0) (gr a' 1) (gr a' 2) l p w v) (n := (gr a 1).length) (fun i w => w = st i) (by omega) (fun w hw => ?_) (fun i w hi hw next => ?_) _ 0 l rfl (Nat.zero_le _) rfl)
   ·refine Tot.step0 (fun _ _ _ => Ab_l0_q ..) ?_
    exact Tot.f (decide_eq_false (by omega)) (Tot.ret hw)
   ·subst hw
    have hs1 := I7 (gr a 1) (sz d true) i [] hi
    obtain ⟨⟨q1, q2⟩, _⟩ := hst i (by omega)
    have hs2 : (((gr a 1).take (i + 1)).map (sz d true)).sum ≤ ((gr a 1).map (sz d true)).sum := by
     have := List.take_append_drop (i + 1) ((gr a 1).map (sz d true))
     have h2 : ((gr a 1).map (sz d true)).sum = (((gr a 1).map (sz d true)).take (i + 1)).sum + (((gr a 1).map (sz d true)).drop (i + 1)).sum := by rw [← List.sum_append, this]
     rw [List.map_take]
     omega
    have hs3 : ((gr a 1).map (sz d true)).sum + 1 ≤ sz (d + 1) true a := by omega
    obtain ⟨⟨p1, _, _⟩, _⟩ := hfs i hi (st i) q1 (by omega)
    refine Tot.step0 (fun _ _ _ => Ab_l0_q ..) ?_
    rw [Int.toNat_natCast]
    repeat (refine Tot.t (decide_eq_true (by omega)) ?_)
    refine Tot.bind (p1 _ (k4 i hi)) fun r hr => ?_
    subst hr
    exact next _ rfl
  ·have := (hst _ (Nat.le_refl _)).1.2
   rw [List.take_length] at this
   omega
 by_cases e6 : gi a 0 = 6
 ·have hs := h6 e6
  have h0s := hsub 0 (by omega)
  have hv : ∀ x : List C, Nds N [x] → Nds N (fs 0 [x]) := fun x hx => (hfs 0 (by omega) [x] hx (by rw [List.length_singleton]; omega)).1.2.1
  refine ⟨stR (fs 0) (l.length + 40 + 1) 0 l, ⟨fun a' hA => ?_, V9 hv _ _ _ hl, ?_⟩, fun m => ?_⟩
  rotate_right
  ·have e : ∀ x, PR ff nf (HP L N) (d + 1) a x m ↔ F3 (PR ff nf (HP L N) d ((gr a 1).getD 0 [])) x m := fun x => by rw [PR, if_neg e1, if_neg e4, if_pos e6]
   have key := Af2 (R := PR ff nf (HP L N) d ((gr a 1).getD 0 [])) hv (fun x hx m => by
    have := (hfs 0 (by omega) [x] hx (by rw [List.length_singleton]; omega)).2 m
    rw [this]
    exact ⟨fun ⟨y, hy, hP⟩ => by rw [Jk] at hy; rw [hy]; exact hP, fun hP => ⟨gi x 0, Jk.2 rfl, hP⟩⟩) (M := l.length + 40) (l.length + 40 + 1) 0 l hl hmu (by omega) (by omega) (fun j hj => by omega) m
   rw [key]
   exact ⟨fun ⟨x, hx, hc⟩ => ⟨x, hx, (e x).2 hc⟩, fun ⟨x, hx, hc⟩ => ⟨x, hx, (e x).1 hc⟩⟩
  ·obtain ⟨k1, k2, k3, k4, k5⟩ := al hA
   have S : Mw L N a' (fs 0) := ⟨by omega, fun x hx => (hfs 0 (by omega) [x] hx (by rw [List.length_singleton]; omega)).1.1 _ (k4 0 (by omega)), fun x hx => ⟨hv x hx, by
    have := (hfs 0 (by omega) [x] hx (by rw [List.length_singleton]; omega)).1.2.2
    rw [List.length_singleton] at this
    omega⟩⟩
   refine Ab_up _ _ _ _ _ _ (Tot.congr ?_ (fun _ _ _ => Ab_q ..))
   refine Tot.f (by rw [k1]; exact beq_false_of_ne e1) (Tot.f (by rw [k1]; exact beq_false_of_ne e4) (Tot.t (by rw [k1, e6]; rfl) (Tot.t (D5 Gx (by omega)) ?_)))
   exact Tot.in0 (T1 S (M := l.length + 40) (by omega) (by omega) hl hmu)
  ·have := V8 hv (l.length + 40 + 1) 0 l hl
   omega
 obtain ⟨ht, hht⟩ : ∃ ht : Int → Bool, gi a 0 = 7 → ∀ n : Int, 0 ≤ n → n < N.length → HD L N ((gr a 2).getD 0 []) n (ht n) := by
  by_cases e7 : gi a 0 = 7
  ·have hl2 := h77.1 e7
   have : ∀ n : Int, ∃ b : Bool, 0 ≤ n → n < N.length → HD L N ((gr a 2).getD 0 []) n b := fun n => by
    by_cases hn : 0 ≤ n ∧ n < N.length
    ·obtain ⟨b, hb⟩ := ihf 0 (by omega) n hn.1 hn.2
     exact ⟨b, fun _ _ => hb⟩
    ·exact ⟨false, fun x y => absurd ⟨x, y⟩ hn⟩
   obtain ⟨f, hf⟩ := Classical.axiomOfChoice this
   exact ⟨f, fun _ => hf⟩
  ·exact ⟨fun _ => false, fun e => absurd e e7⟩
 have hg := Te (op := gi a 0) (ht := ht) (fun n x y => (hff n x y).2) (fun n x y => (hnf n x y).2) hl
 have hgl := Pd (op := gi a 0) (ff := ff) (nf := nf) (ht := ht) (m := l)
 have hfl : ∀ i, i < (gr a 1).length → Nds N (fs i l) ∧ (fs i l).length ≤ 20000 := fun i hi => by
  have := hsub i hi
  obtain ⟨⟨_, p2, p3⟩, _⟩ := hfs i hi l hl (by omega)
  exact ⟨p2, by omega⟩
 have hal : ∀ w : LL, Nds N w → w.length ≤ l.length → ∀ i, i ≤ (gr a 1).length → (Eu (fun i => fs i l) w i).length ≤ l.length + 40 := fun w _ hw i hi => by
  have h1 := Q4 (N := N) (fs := fun i => fs i l) (w := w) i (fun j hj => (hfl j (by omega)).1)
  have h2 := Pt w N.length
  omega
 refine ⟨Eu (fun i => fs i l) (l.flatMap (gst (gi a 0) ff nf ht)) (gr a 1).length, ⟨fun a' hA => ?_, Q5 hg _ (fun i hi => (hfl i hi).1), ?_⟩, fun m => ?_⟩
 rotate_right
 ·have e : ∀ x, PR ff nf (HP L N) (d + 1) a x m ↔ ((gi a 0 = 2 ∧ m = ff x ∧ 0 ≤ ff x) ∨ (gi a 0 = 3 ∧ m = nf x ∧ 0 ≤ nf x) ∨ (gi a 0 = 7 ∧ m = x ∧ HP L N ((gr a 2).getD 0 []) x) ∨ ∃ r, r ∈ gr a 1 ∧ PR ff nf (HP L N) d r x m) := fun x => by rw [PR, if_neg e1, if_neg e4, if_neg e6]
  rw [Aa3, Aa5]
  constructor
  ·rintro (⟨x, hx, hs⟩ | ⟨i, hi, hm⟩)
   ·have hxb := Pi hl hx
    refine ⟨x, hx, (e x).2 ?_⟩
    rcases hs with hs | hs | ⟨e7, hs, hb⟩
    ·exact .inl hs
    ·exact .inr (.inl hs)
    ·refine .inr (.inr (.inl ⟨e7, hs, ?_⟩))
     have := hht e7 x hxb.1 hxb.2
     rw [hb] at this
     exact this
   ·have := hsub i hi
    obtain ⟨x, hx, hP⟩ := ((hfs i hi l hl (by omega)).2 m).1 hm
    exact ⟨x, hx, (e x).2 (.inr (.inr (.inr ⟨_, Eb hi, hP⟩)))⟩
  ·rintro ⟨x, hx, hP⟩
   have hxb := Pi hl hx
   rcases (e x).1 hP with hs | hs | ⟨e7, hs, hH⟩ | ⟨r, hr, hs⟩
   ·exact .inl ⟨x, hx, .inl hs⟩
   ·exact .inl ⟨x, hx, .inr (.inl hs)⟩
   ·exact .inl ⟨x, hx, .inr (.inr ⟨e7, hs, Qt (hht e7 x hxb.1 hxb.2) hH⟩)⟩
   ·obtain ⟨i, hi, rfl⟩ := Fe hr
    have := hsub i hi
    exact .inr ⟨i, hi, ((hfs i hi l hl (by omega)).2 m).2 ⟨x, hx, hs⟩⟩
 ·obtain ⟨k1, k2, k3, k4, k5⟩ := al hA
  have S : St1 L N a' ff nf ht := ⟨fun n x y => (hff n x y).1, fun n x y => (hnf n x y).1, fun e7 => by
   rw [k1] at e7
   have hl2 := h77.1 e7
   exact ⟨by omega, fun n x y => hht e7 n x y _ (k5 0 (by omega))⟩⟩
  have hf' : ∀ i, i < (gr a' 1).length → Tot (fun k _ _ => (lv k).Ab L N (gi ((gr a' 1).getD i []) 0) (gr ((gr a' 1).getD i []) 1) (gr ((gr a' 1).getD i []) 2) l) (fun r => r = fs i l) := fun i hi => by
   have := hsub i (by omega)
   exact (hfs i (by omega) l hl (by omega)).1.1 _ (k4 i (by omega))
  have hlen' : ∀ w : LL, Nds N w → w.length ≤ l.length → ∀ i, i < (gr a' 1).length → (Eu (fun i => fs i l) w i).length + (fs i l).length ≤ 100000 := fun w hw hwl i hi => by
   have := hal w hw hwl i (by omega)
   have := (hfl i (by omega)).2
   omega
  refine Ab_up _ _ _ _ _ _ (Tot.congr ?_ (fun _ _ _ => Ab_q ..))
  refine Tot.f (by rw [k1]; exact beq_false_of_ne e1) (Tot.f (by rw [k1]; exact beq_false_of_ne e4) (Tot.f (by rw [k1]; exact beq_false_of_ne e6) ?_))
  rw [← k1, ← k2]
  rw [← k1] at hg hgl
  exact Tot.in0 (T2 S hl (by omega) (Po (fs := fun i => fs i l) (by omega) hf' (hlen' _ hg hgl) _ 0 _ rfl (Nat.zero_le _) rfl)
   (fun e => by
    rw [e]
    exact T4 (fs := fun i => fs i l) (by omega) hf' (hlen' _ (fun r hr => by cases hr) (Nat.zero_le _)) _ 0 () rfl (Nat.zero_le _) rfl) _ 0 () rfl (Nat.zero_le _) rfl)
 ·have := hal _ hg hgl _ (Nat.le_refl _)
  omega
theorem Afg (h : WOk L N) (hA : ∀ i, (gr (L.getD i []) 3).length ≤ 1048576) (hff : ∀ n : Int, 0 ≤ n → n < N.length → Tot (fun k _ _ => (lv k).Cm L N n) (fun r => r = ff n) ∧ Nd N (ff n)) (hnf : ∀ n : Int, 0 ≤ n → n < N.length → Tot (fun k _ _ => (lv k).Cn L N n) (fun r => r = nf n) ∧ Nd N (nf n)) : ∀ d, d ≤ 16 →
  ∀ a, ok d true a → ∀ l, Nds N l → l.length + 41 * sz d true a ≤ 10000 → ∃ r, LS L N ff nf d a l r := by
 intro d
 induction d with
 | zero => intro _ a h; exact h.elim
 | succ d ih =>
  intro hd a ha l hl hb
  have ha' := ha
  obtain ⟨_, _, _, _, _, _, _, _, h9, h10⟩ := ha'
  have esz : sz (d + 1) true a = 1 + ((gr a 1).map (sz d true)).sum + ((gr a 2).map (sz d false)).sum := rfl
  exact Afh h hff hnf hd ha (fun i hi l hl hb => ih (by omega) _ (h9 i hi) l hl hb) (fun i hi n n0 n1 => by
   have := Hm (f := sz d false) hi
   exact (Sa h hA d (by omega)).2 _ (h10 i hi) (by omega) n n0 n1) hl hb
end
def plN (l : LL) : Nat → LL
 | 0 => []
 | n + 1 => if gi (l.getD n []) 0 = 3 then plN l n else plN l n ++ [[C.int .i64 (n : Int)]]
theorem I2 (l : LL) : ∀ n, (plN l n).length = Bw l n := by
 intro n
 induction n with
 | zero => rfl
 | succ n ih =>
  rw [plN, Bw]
  split
  ·exact ih
  ·rw [List.length_append, ih]; rfl
theorem Nu {l : LL} : ∀ {n j : Nat}, j < n → gi (l.getD j []) 0 ≠ 3 → (plN l n).getD (Bw l j) [] = [C.int .i64 (j : Int)] := by
 intro n
 induction n with
 | zero => intro j h; omega
 | succ n ih =>
  intro j h hk
  rw [plN]
  rcases Nat.lt_or_ge j n with g | g
  ·split
   ·exact ih g hk
   ·have := Ip (l := l) (show j + 1 ≤ n from g)
    have := Hc hk
    rw [Pa (by rw [I2]; omega)]
    exact ih g hk
  ·obtain rfl : j = n := by omega
   rw [if_neg hk, ← I2 l j]
   exact O9
theorem U7 {l : LL} : ∀ {n i : Nat}, i < Bw l n → ∃ j, j < n ∧ gi (l.getD j []) 0 ≠ 3 ∧ Bw l j = i := by
 intro n
 induction n with
 | zero => intro i h; exact absurd h (Nat.not_lt_zero _)
 | succ n ih =>
  intro i h
  rw [Bw] at h
  split at h
  ·obtain ⟨j, h1, h2⟩ := ih h
   exact ⟨j, by omega, h2⟩
  ·rename_i hk
   rcases Nat.lt_or_ge i (Bw l n) with g | g
   ·obtain ⟨j, h1, h2⟩ := ih g
    exact ⟨j, by omega, h2⟩
   ·exact ⟨n, by omega, hk, by omega⟩
theorem Abx (L : LL) (hl : L.length ≤ 40) : Tot (fun k _ _ => (lv k).Bo L) (fun r => r = (L, plN L L.length)) := by
 have hz := Jg L
 refine Bo_up _ (Tot.congr ?_ (fun _ _ _ => Bo_q ..))
 have l1 := Tot.loop (H := fun k p q v w => Bo_l1 (lv k) k L p v w) (Q := fun r => r = (L, plN L L.length)) (n := L.length) (fun i w => w = plN L i) (by omega) (fun w h => by
  refine Tot.step0 (fun _ _ _ => Bo_l1_q ..) ?_
  exact Tot.f (decide_eq_false (by omega)) (Tot.ret (by rw [h]))) (fun i w hi h next => by
  subst h
  have hw := I2 L i
  have := hz i
  refine Tot.step0 (fun _ _ _ => Bo_l1_q ..) ?_
  rw [Int.toNat_natCast]
  repeat (refine Tot.t (decide_eq_true (by omega)) ?_)
  refine Tot.cond (fun c => Tot.t (D5 Gx (by omega)) (next _ ?_)) (fun c => next _ ?_)
  ·rw [plN, if_neg (by simpa using c)]
  ·rw [plN, if_pos (by simpa using c)])
 refine Tot.in0 (Tot.loop (H := fun k p q v (_ : Unit) => Bo_l0 (lv k) k L p v) (n := L.length) (fun i _ => plN L i = []) (by omega) (fun _ h => ?_) (fun i _ hi h next => ?_) _ 0 () rfl (by omega) rfl)
 ·refine Tot.step0 (fun _ _ _ => Bo_l0_q ..) ?_
  exact Tot.f (decide_eq_false (by omega)) (Tot.ret (by rw [h]))
 ·refine Tot.step0 (fun _ _ _ => Bo_l0_q ..) ?_
  rw [Int.toNat_natCast]
  repeat (refine Tot.t (decide_eq_true (by omega)) ?_)
  refine Tot.cond (fun c => ?_) (fun c => next () ?_)
  ·rw [Ai (x := (i : Int) + 1) (by omega) (by omega), show (i : Int) + 1 = ((i + 1 : Nat) : Int) by omega]
   exact l1 _ (i + 1) _ rfl (by omega) (by rw [plN, if_neg (by simpa using c), h]; rfl)
  ·rw [plN, if_pos (by simpa using c)]; exact h
def Fy (l : LL) (x : Nat) : Int := if x < l.length ∧ gi (l.getD x []) 0 ≠ 3 then (Bw l x : Int) else -1
theorem Un (l : LL) (hl : l.length ≤ 40) (x : Nat) : Tot (fun k _ _ => (lv k).By l (plN l l.length) (x : Int)) (fun r => r = Fy l x) := by
 have hn := I2 l l.length
 have hc := Jg l l.length
 have hpl : ∀ i, i < (plN l l.length).length → ∃ j, j < l.length ∧ gi (l.getD j []) 0 ≠ 3 ∧ Bw l j = i ∧ gi ((plN l l.length).getD i []) 0 = j := fun i hi => by
  obtain ⟨j, h1, h2, h3⟩ := U7 (l := l) (n := l.length) (i := i) (by omega)
  refine ⟨j, h1, h2, h3, ?_⟩
  rw [← h3, Nu h1 h2]; rfl
 refine By_up _ _ _ (Tot.congr ?_ (fun _ _ _ => By_q ..))
 refine Tot.in0 (Tot.loop (H := fun k p q v (_ : Unit) => By_l0 (lv k) k l (plN l l.length) (x : Int) p v) (n := (plN l l.length).length) (fun i _ => ∀ j, j < i → gi ((plN l l.length).getD j []) 0 ≠ x) (by omega) (fun _ h => ?_) (fun i _ hi h next => ?_) _ 0 () rfl (by omega) (fun j hj => by omega))
 ·refine Tot.step0 (fun _ _ _ => By_l0_q ..) ?_
  refine Tot.f (decide_eq_false (by omega)) (Tot.ret ?_)
  unfold Fy
  rw [if_neg]
  rintro ⟨h1, h2⟩
  have hlt : Bw l x < Bw l l.length := by
   have := Ip (l := l) (show x + 1 ≤ l.length from h1)
   have := Hc h2
   omega
  refine h (Bw l x) (by omega) ?_
  rw [Nu h1 h2]; rfl
 ·refine Tot.step0 (fun _ _ _ => By_l0_q ..) ?_
  rw [Int.toNat_natCast]
  repeat (refine Tot.t (decide_eq_true (by omega)) ?_)
  refine Tot.cond (fun c => Tot.ret ?_) (fun c => next () fun j hj => ?_)
  ·have c := eq_of_beq c
   obtain ⟨j, h1, h2, h3, h4⟩ := hpl i hi
   have e : j = x := by omega
   subst e
   unfold Fy
   rw [if_pos ⟨h1, h2⟩, h3]
  ·rcases Nat.lt_or_ge j i with g | g
   ·exact h j g
   ·rw [show j = i by omega]; exact ne_of_beq_false c
def plc (l : LL) (n : Int) : Nat := (gi ((plN l l.length).getD n.toNat []) 0).toNat
theorem I3 {l : LL} {n : Int} (h0 : 0 ≤ n) (h1 : n < (plN l l.length).length) : plc l n < l.length ∧ gi (l.getD (plc l n) []) 0 ≠ 3 ∧ (Bw l (plc l n) : Int) = n ∧ gi ((plN l l.length).getD n.toNat []) 0 = (plc l n : Int) := by
 rw [I2] at h1
 obtain ⟨j, j1, j2, j3⟩ := U7 (l := l) (n := l.length) (i := n.toNat) (by omega)
 have e : gi ((plN l l.length).getD n.toNat []) 0 = (j : Int) := by rw [← j3, Nu j1 j2]; rfl
 have e2 : plc l n = j := by unfold plc; rw [e]; exact Int.toNat_natCast _
 rw [e2, e]
 exact ⟨j1, j2, by omega, rfl⟩
theorem U8 {l : LL} {x : Nat} (h1 : x < l.length) (h2 : gi (l.getD x []) 0 ≠ 3) : plc l (Bw l x) = x ∧ Bw l x < (plN l l.length).length := by
 have hlt : Bw l x < Bw l l.length := by
  have := Ip (l := l) (show x + 1 ≤ l.length from h1)
  have := Hc h2
  omega
 refine ⟨?_, by rw [I2]; exact hlt⟩
 unfold plc
 rw [Int.toNat_natCast, Nu h1 h2]
 exact Int.toNat_natCast _
def fC (l : LL) (n : Int) : Int := if 0 ≤ n ∧ n < (plN l l.length).length ∧ gi (l.getD (plc l n) []) 0 = 1 then Fy l (plc l n + 1) else -1
def nS (l : LL) (n : Int) : Int := if 0 < n ∧ n < (plN l l.length).length then Fy l (Eg l (plc l n) l.length (plc l n)) else -1
theorem Zk {l : LL} (hl : l.length ≤ 40) {n : Int} (h0 : 0 ≤ n) (h1 : n < (plN l l.length).length) : Tot (fun k _ _ => (lv k).Cm l (plN l l.length) n) (fun r => r = fC l n) := by
 obtain ⟨p1, p2, p3, p4⟩ := I3 h0 h1
 refine Cm_up _ _ _ (Tot.congr ?_ (fun _ _ _ => Cm_q ..))
 rw [p4]
 repeat (refine Tot.t (decide_eq_true (by omega)) ?_)
 rw [Int.toNat_natCast]
 unfold fC
 refine Tot.cond (fun c => Tot.ret ?_) (fun c => ?_)
 ·rw [if_neg fun h => by rw [h.2.2] at c; cases c]
 ·rw [if_pos ⟨h0, h1, by simpa using c⟩]
  rw [Ai (by omega) (by omega), show (plc l n : Int) + 1 = ((plc l n + 1 : Nat) : Int) by omega]
  repeat (refine Tot.t (decide_eq_true (by omega)) ?_)
  exact Tot.bind (Un l hl _) fun r hr => Tot.ret hr
theorem Ab6 {l : LL} (hs : SmL BB l) (hl : l.length ≤ 40) {n : Int} (h0 : 0 ≤ n) (h1 : n < (plN l l.length).length) : Tot (fun k _ _ => (lv k).Cn l (plN l l.length) n) (fun r => r = nS l n) := by
 obtain ⟨p1, p2, p3, p4⟩ := I3 h0 h1
 refine Cn_up _ _ _ (Tot.congr ?_ (fun _ _ _ => Cn_q ..))
 unfold nS
 refine Tot.cond (fun c => Tot.ret ?_) (fun c => ?_)
 ·rw [if_neg fun h => by have := eq_of_beq c; omega]
 ·rw [if_pos ⟨by have := ne_of_beq_false c; omega, h1⟩, p4]
  repeat (refine Tot.t (decide_eq_true (by omega)) ?_)
  exact Tot.bind (Y6 l hs _ (by omega)) fun r hr => by
   subst hr
   exact Tot.bind (Un l hl _) fun r hr => Tot.ret hr
theorem Ul {l : LL} {x : Nat} : Nd (plN l l.length) (Fy l x) := by
 unfold Fy
 split
 ·rename_i h
  have := (U8 h.1 h.2).2
  exact .inr ⟨by omega, by omega⟩
 ·exact .inl rfl
theorem O5 {l : LL} {n : Int} : Nd (plN l l.length) (fC l n) := by
 unfold fC
 split
 ·exact Ul
 ·exact .inl rfl
theorem Pu {l : LL} {n : Int} : Nd (plN l l.length) (nS l n) := by
 unfold nS
 split
 ·exact Ul
 ·exact .inl rfl
theorem Um {l : LL} {x : Nat} (h : 0 ≤ Fy l x) : plc l (Fy l x) = x ∧ x < l.length ∧ gi (l.getD x []) 0 ≠ 3 := by
 unfold Fy at h ⊢
 split at h
 ·rename_i hx
  rw [if_pos hx]
  exact ⟨(U8 hx.1 hx.2).1, hx⟩
 ·omega
theorem Ne {l : LL} {n : Int} (h : 0 ≤ fC l n) : n < fC l n ∧ 0 ≤ n ∧ n < (plN l l.length).length ∧ gi (l.getD (plc l n) []) 0 = 1 ∧ plc l (fC l n) = plc l n + 1 := by
 unfold fC at h ⊢
 split at h
 ·rename_i hc
  rw [if_pos hc]
  obtain ⟨p1, p2, p3, p4⟩ := I3 hc.1 hc.2.1
  obtain ⟨q1, q2, q3⟩ := Um h
  have e : Fy l (plc l n + 1) = (Bw l (plc l n + 1) : Int) := by unfold Fy; rw [if_pos ⟨q2, q3⟩]
  have := Hc p2
  exact ⟨by rw [e]; omega, hc.1, hc.2.1, hc.2.2, q1⟩
 ·omega
theorem Nq {l : LL} {n : Int} (h : 0 ≤ nS l n) : n < nS l n ∧ 0 < n ∧ n < (plN l l.length).length ∧ plc l (nS l n) = Eg l (plc l n) l.length (plc l n) := by
 unfold nS at h ⊢
 split at h
 ·rename_i hc
  rw [if_pos hc]
  obtain ⟨p1, p2, p3, p4⟩ := I3 (by omega) hc.2
  obtain ⟨q1, q2, q3⟩ := Um h
  have e : Fy l (Eg l (plc l n) l.length (plc l n)) = (Bw l (Eg l (plc l n) l.length (plc l n)) : Int) := by unfold Fy; rw [if_pos ⟨q2, q3⟩]
  have hg := O4 l (plc l n) l.length (plc l n) p1
  have := Ip (l := l) (show plc l n + 1 ≤ Eg l (plc l n) l.length (plc l n) from hg)
  have := Hc p2
  exact ⟨by rw [e]; omega, hc.1, hc.2, q1⟩
 ·omega
theorem S4 : ∀ {d : Nat}, d ≤ 16 → ∀ {k : Bool} {a : List C}, ok d k a → (∀ e, sz e k a ≤ 64) → ∀ f, f ∈ fl d k a → (∀ e, sz e false f ≤ 64) ∧ ∀ x, x ∈ inn 16 false f → x ∈ inn d k a := by
 intro d
 induction d with
 | zero => intro _ k a h; exact h.elim
 | succ d ih =>
  intro hd k a h hz f hf
  have ih := @ih (by omega)
  cases k with
  | true =>
   obtain ⟨_, _, _, _, _, _, _, _, h9, h10⟩ := h
   rcases List.mem_append.1 hf with hx | hx
   ·obtain ⟨y, hy, hxy⟩ := List.mem_flatMap.1 hx
    obtain ⟨i, hi, rfl⟩ := Fe hy
    obtain ⟨q1, q2⟩ := ih (h9 i hi) (Gt hz 1 true (by simp) hi) f hxy
    exact ⟨q1, fun x hx => List.mem_append_left _ (List.mem_flatMap.2 ⟨_, hy, q2 x hx⟩)⟩
   ·obtain ⟨y, hy, hxy⟩ := List.mem_flatMap.1 hx
    obtain ⟨i, hi, rfl⟩ := Fe hy
    obtain ⟨q1, q2⟩ := ih (h10 i hi) (Gt hz 2 false (by simp) hi) f hxy
    exact ⟨q1, fun x hx => List.mem_append_right _ (List.mem_flatMap.2 ⟨_, hy, q2 x hx⟩)⟩
  | false =>
   have hself := h
   obtain ⟨_, _, _, _, _, _, _, _, h9, h10⟩ := h
   rcases List.mem_append.1 hf with hx | hx
   ·rcases List.mem_append.1 hx with hx | hx
    ·rw [List.mem_singleton.1 hx]
     refine ⟨fun e => by cases e with
      | zero => exact hz 0
      | succ e => exact hz (e + 1), fun x hx => ?_⟩
     have hx : x ∈ inn 16 false a := hx
     rwa [Tn hd hself] at hx
    ·obtain ⟨y, hy, hxy⟩ := List.mem_flatMap.1 hx
     obtain ⟨i, hi, rfl⟩ := Fe hy
     obtain ⟨q1, q2⟩ := ih (h9 i hi) (Gt hz 4 false (by simp) hi) f hxy
     exact ⟨q1, fun x hx => List.mem_append_left _ (List.mem_flatMap.2 ⟨_, hy, q2 x hx⟩)⟩
   ·obtain ⟨y, hy, hxy⟩ := List.mem_flatMap.1 hx
    obtain ⟨i, hi, rfl⟩ := Fe hy
    obtain ⟨q1, q2⟩ := ih (h10 i hi) (Gt hz 5 true (by simp) hi) f hxy
    exact ⟨q1, fun x hx => List.mem_append_right _ (List.mem_flatMap.2 ⟨_, hy, List.mem_append_left _ (q2 x hx)⟩)⟩
theorem Ue : ∀ d, ∀ (a : List C), ok d true a → ∀ (n t : Int) x, x ∈ (mk d (gi a 0) (gr a 1) (gr a 2) n t).T → nf x ∈ fl d true a := by
 intro d
 induction d with
 | zero => intro a h; exact h.elim
 | succ d ih =>
  intro a ha n t x hx
  obtain ⟨_, _, _, _, _, _, _, _, h9, h10⟩ := ha
  have hsub : ∀ r, r ∈ gr a 1 → ∀ n t x, x ∈ (mk d (gi r 0) (gr r 1) (gr r 2) n t).T → nf x ∈ fl (d + 1) true a := fun r hr n t x hx => by
   obtain ⟨i, hi, rfl⟩ := Fe hr
   exact List.mem_append_left _ (List.mem_flatMap.2 ⟨_, hr, ih _ (h9 i hi) n t x hx⟩)
  have htest : ∀ x, x ∈ gr a 2 → nf x ∈ fl (d + 1) true a := fun x hx => by
   obtain ⟨i, hi, rfl⟩ := Fe hx
   refine List.mem_append_right _ (List.mem_flatMap.2 ⟨_, hx, ?_⟩)
   have := h10 i hi
   cases d with
   | zero => exact this.elim
   | succ d => exact List.mem_append_left _ (List.mem_append_left _ (List.mem_singleton.2 rfl))
  unfold mk at hx
  split at hx
  ·split at hx
   ·cases hx
   ·rename_i r l hrl
    exact Vy (fun r hr => hsub r (by rw [hrl]; exact List.mem_cons_of_mem _ hr)) (hsub r (by rw [hrl]; exact List.mem_cons_self) _ _) x hx
  ·split at hx
   ·exact Q1 hsub (fun x hx => by cases hx) x hx
   ·split at hx
    ·split at hx
     ·cases hx
     ·rename_i r l hrl
      exact hsub r (by rw [hrl]; exact List.mem_cons_self) _ _ x hx
    ·split at hx
     ·exact htest x hx
     ·cases hx
theorem Qz (y : List C) : Bq false y (nf y) := .filter rfl rfl rfl rfl (by rfl) (by rfl) (fun i _ => Bq.refl _ _) (fun i _ => Bq.refl _ _)
theorem Ny {rows : LL} (hr : ∀ j, j < rows.length → gi (rows.getD j []) 0 = 0 ∨ gi (rows.getD j []) 0 = 1) {j : Nat} (hj : j < rows.length) : ((Ee rows).data.getD j 0).toNat = (gi (rows.getD j []) 0).toNat := by
 unfold Ee
 have e : ((rows.map fun r => UInt8.ofNat (r.headD default).it.toNat).toArray).getD j 0 = UInt8.ofNat (gi (rows.getD j []) 0).toNat := by
  rw [Array.getD_eq_getD_getElem?]
  simp only [List.getElem?_toArray, List.getElem?_map]
  rw [List.getElem?_eq_getElem hj, List.getD_eq_getElem?_getD, List.getElem?_eq_getElem hj]
  simp only [Option.map_some, Option.getD_some]
  have : (rows[j].headD default).it = gi rows[j] 0 := by
   cases rows[j] with
   | nil => rfl
   | cons x t => rfl
  rw [this]
 show (((rows.map fun r => UInt8.ofNat (r.headD default).it.toNat).toArray).getD j 0).toNat = _
 rw [e]
 rcases hr j hj with h | h <;> rw [h] <;> rfl
section
variable {p : List C} {l : LL} {n s e : Int} {E T : LL}
def evt (l : LL) (x : Int) : List C := l.getD (plc l x) []
noncomputable def sx (p : List C) (l : LL) (n s e : Int) (E T : LL) (x : Int) : S3 := srt p l n s e E T (plc l x)
noncomputable def fs3 (p : List C) (l : LL) (n s e : Int) (E T : LL) (x : Int) : S3 := if 0 ≤ fC l x then sx p l n s e E T (fC l x) else no3
noncomputable def ns3 (p : List C) (l : LL) (n s e : Int) (E T : LL) (x : Int) : S3 := if 0 ≤ nS l x then sx p l n s e E T (nS l x) else no3
theorem Wf (hd : Ga l) {x : Int} (h0 : 0 ≤ x) (h1 : x < (plN l l.length).length) : sx p l n s e E T x = st3 p n s e E T (evt l x) (fs3 p l n s e E T x) (ns3 p l n s e E T x) := by
 obtain ⟨p1, p2, p3, p4⟩ := I3 h0 h1
 unfold sx
 rw [N6, if_pos ⟨p1, p2⟩]
 have ef : (if gi (l.getD (plc l x) []) 0 = 1 then srt p l n s e E T (plc l x + 1) else no3) = fs3 p l n s e E T x := by
  unfold fs3
  by_cases k1 : gi (l.getD (plc l x) []) 0 = 1
  ·rw [if_pos k1]
   by_cases hf : 0 ≤ fC l x
   ·rw [if_pos hf]
    unfold sx
    rw [(Ne hf).2.2.2.2]
   ·rw [if_neg hf]
    refine Mn fun hh => hf ?_
    unfold fC
    rw [if_pos ⟨h0, h1, k1⟩]
    unfold Fy
    rw [if_pos hh]
    omega
  ·rw [if_neg k1, if_neg]
   intro hf
   exact k1 (Ne hf).2.2.2.1
 have en : (if 0 < plc l x then srt p l n s e E T (Eg l (plc l x) l.length (plc l x)) else no3) = ns3 p l n s e E T x := by
  have h01 : 0 < plc l x ↔ 0 < x := by
   constructor
   ·intro h
    have hc := Ip (l := l) (show 1 ≤ plc l x from h)
    have h00 : gi (l.getD 0 []) 0 ≠ 3 := by
     have := (hd.2.1 0 hd.1).2.1 rfl
     omega
    have : Bw l 1 = Bw l 0 + 1 := Hc h00
    omega
   ·intro h
    rcases Nat.eq_zero_or_pos (plc l x) with g | g
    ·rw [g] at p3
     have : Bw l 0 = 0 := rfl
     omega
    ·exact g
  unfold ns3
  by_cases hx : 0 < plc l x
  ·rw [if_pos hx]
   by_cases hf : 0 ≤ nS l x
   ·rw [if_pos hf]
    unfold sx
    rw [(Nq hf).2.2.2]
   ·rw [if_neg hf]
    refine Mn fun hh => hf ?_
    unfold nS
    rw [if_pos ⟨h01.1 hx, h1⟩]
    unfold Fy
    rw [if_pos hh]
    omega
  ·rw [if_neg hx, if_neg]
   intro hf
   exact hx (h01.2 (Nq hf).2.1)
 rw [ef, en]
 rfl
theorem Wg (h : Cb p) (x : Int) : OkS p (sx p l n s e E T x) := Qf h _
theorem Aah (h : Cb p) (x : Int) : OkS p (fs3 p l n s e E T x) := by
 unfold fs3
 split
 ·exact Wg h _
 ·exact Nr
theorem Acg (h : Cb p) (x : Int) : OkS p (ns3 p l n s e E T x) := by
 unfold ns3
 split
 ·exact Wg h _
 ·exact Nr
noncomputable def btx (p : List C) (l : LL) (n s e : Int) (E T : LL) (x : Int) (i : Nat) : LL := Hk p n s e E T (gi (evt l x) 0) (gs (evt l x) 1) (gs (evt l x) 2) (gr (evt l x) 3) (gs (evt l x) 4) (fs3 p l n s e E T x).1 (fs3 p l n s e E T x).2.2 (ns3 p l n s e E T x).1 (ns3 p l n s e E T x).2.2 i
noncomputable def hsx (p : List C) (l : LL) (n s e : Int) (E T : LL) (x : Int) (i : Nat) : LL := Gz (DD p) ((DD p).map C7) (Ct 0 (DD p)) n s e E T (gi (evt l x) 0) (gs (evt l x) 1) (gs (evt l x) 2) (gr (evt l x) 3) (gs (evt l x) 4) (btx p l n s e E T x i) ((A4 ((DD p).getD i [])).T.map nf)
noncomputable def gdx (p : List C) (l : LL) (n s e : Int) (E T : LL) (x : Int) (i : Nat) (q : Int) : Bool := gd (fs3 p l n s e E T x).1 (fs3 p l n s e E T x).2.2 (ns3 p l n s e E T x).1 (ns3 p l n s e E T x).2.2 (Be ((DD p).take i)) (A4 ((DD p).getD i [])) (hsx p l n s e E T x i) q
theorem Ou (x : Int) (i : Nat) : btx p l n s e E T x (i + 1) = upd (btx p l n s e E T x i) (Be ((DD p).take i)) (nst ((DD p).getD i [])) (gdx p l n s e E T x i) := rfl
theorem Lp (h : Cb p) (x : Int) (i : Nat) : ((btx p l n s e E T x i).length : Int) = Be (DD p) := Ml h i
theorem Ot (h : Cb p) (hs : SmL BB l) (x : Int) {i : Nat} (hi : i < (DD p).length) {q : Int} (q0 : 0 ≤ q) (q1 : q < nst ((DD p).getD i [])) : ∀ k, i < k → k ≤ (DD p).length → (btx p l n s e E T x k).getD (Be ((DD p).take i) + q).toNat [] = [C.int .u8 (if gdx p l n s e E T x i q = true then 1 else 0)] := by
 have hg := h.ded.good
 have hal : (gr (evt l x) 3).length ≤ 1048576 := ((hs.get _).gr 3).1
 have tb := (F7 (Ix hg i)).1
 have tl := La hg hi
 intro k
 induction k with
 | zero => intro h; omega
 | succ k ih =>
  intro hk hkl
  rw [Ou]
  rcases Nat.lt_or_ge i k with g | g
  ·have hb := Lp (n := n) (s := s) (e := e) (E := E) (T := T) (l := l) h x k
   have tk : Be ((DD p).take (i + 1)) ≤ Be ((DD p).take k) := by
    have e1 : (DD p).take (i + 1) = ((DD p).take k).take (i + 1) := by rw [List.take_take, Nat.min_eq_left g]
    have hgk := Ix hg k
    have e2 : ((DD p).take k).getD i [] = (DD p).getD i [] := by simp [List.getD_eq_getElem?_getD, List.getElem?_take, g]
    have e3 : ((DD p).take k).take i = (DD p).take i := by rw [List.take_take, Nat.min_eq_left (by omega)]
    have := La hgk (i := i) (by rw [List.length_take]; omega)
    rw [e2, e3] at this
    rw [G7 hi, I8]
    have e4 : Be [(DD p).getD i []] = nst ((DD p).getD i []) := by simp [Be]
    omega
   rw [G7 hi, I8] at tk
   have e4 : Be [(DD p).getD i []] = nst ((DD p).getD i []) := by simp [Be]
   rw [Hn (by omega), if_neg (fun c => by have := c.1; omega)]
   exact ih g (by omega)
  ·obtain rfl : i = k := by omega
   have c := U5 (n := n) (s := s) (e := e) (E := E) (T := T) (ek := gi (evt l x) 0) (e1 := gs (evt l x) 1) (e2 := gs (evt l x) 2) (et := gs (evt l x) 4) h hal (Aah (l := l) (n := n) (s := s) (e := e) (E := E) (T := T) h x) (Acg (l := l) (n := n) (s := s) (e := e) (E := E) (T := T) h x) hi
   exact Oe c.z q0 q1
theorem M6 (h : Cb p) (x : Int) : ∀ k, ∀ j, j < (btx p l n s e E T x k).length → gi ((btx p l n s e E T x k).getD j []) 0 = 0 ∨ gi ((btx p l n s e E T x k).getD j []) 0 = 1 := by
 intro k
 induction k with
 | zero =>
  intro j hj
  have hj' : j < (List.replicate (Be (DD p)).toNat [C.int .u8 0]).length := hj
  rw [List.length_replicate] at hj'
  left
  show gi ((List.replicate (Be (DD p)).toNat [C.int .u8 0]).getD j []) 0 = 0
  rw [List.getD_eq_getElem?_getD, List.getElem?_replicate, if_pos hj']
  rfl
 | succ k ih =>
  intro j hj
  rw [Ou] at hj ⊢
  rw [Fv] at hj
  rw [Hn hj]
  split
  ·exact .inr rfl
  ·exact ih j hj
theorem Add (h : Cb p) (hs : SmL BB l) (hd : Ga l) {x : Int} (h0 : 0 ≤ x) (h1 : x < (plN l l.length).length) {i : Nat} (hi : i < (DD p).length) {q : Int} (q0 : 0 ≤ q) (q1 : q < nst ((DD p).getD i [])) : one (sx p l n s e E T x).1 (sx p l n s e E T x).2.2 (Be ((DD p).take i) + q) = gdx p l n s e E T x i q := by
 have hg := h.ded.good
 have tb := (F7 (Ix hg i)).1
 have tl := La hg hi
 have hb := Lp (n := n) (s := s) (e := e) (E := E) (T := T) (l := l) h x (DD p).length
 have hat := Ot (n := n) (s := s) (e := e) (E := E) (T := T) h hs x hi q0 q1 (DD p).length hi (Nat.le_refl _)
 rw [Wf hd h0 h1]
 show (true && ((((Ee (btx p l n s e E T x (DD p).length)).data.getD (Be ((DD p).take i) + q).toNat 0).toNat : Int) == (1 : Int))) = _
 rw [Ny (M6 h x _) (by omega), hat, Bool.true_and]
 cases gdx p l n s e E T x i q <;> rfl
def HSi (p : List C) (l : LL) (i : Nat) (t : Int) (x : Int) : Prop := ∃ j : Nat, t = j ∧ j < (A4 ((DD p).getD i [])).T.length ∧ HP l (plN l l.length) ((A4 ((DD p).getD i [])).T.getD j []) x
theorem tci (i : Nat) : TC (HP l (plN l l.length)) (HSi p l i) 0 (A4 ((DD p).getD i [])).T := fun j hj x => by
 constructor
 ·rintro ⟨j', e, _, h⟩
  have : j = j' := by omega
  rw [this]; exact h
 ·intro h; exact ⟨j, by omega, hj, h⟩
abbrev Jd (p : List C) (l : LL) (n s e : Int) (E T : LL) (i : Nat) : Prop := ∀ x : Int, 0 ≤ x → x < (plN l l.length).length → (gdx p l n s e E T x i (A4 ((DD p).getD i [])).s = true ↔ ∃ m, PR (fC l) (nS l) (HP l (plN l l.length)) 16 ((DD p).getD i []) x m)
theorem Qo (hl : l.length ≤ 40) : WOk l (plN l l.length) := by
 have := Jg l l.length
 refine ⟨hl, by rw [I2]; omega, fun i hi => ?_⟩
 obtain ⟨p1, p2, p3, p4⟩ := I3 (l := l) (n := (i : Int)) (by omega) (by omega)
 rw [Int.toNat_natCast] at p4
 omega
theorem Qb (hs : SmL BB l) (hl : l.length ≤ 40) (hd : Ga l) {a : List C} (ha : Cb a) {x : Int} (h0 : 0 ≤ x) (h1 : x < (plN l l.length).length) : ∃ r, LD l (plN l l.length) a [[C.int .i64 x]] r ∧ Nds (plN l l.length) r ∧ r.length ≤ 100000 ∧ ∀ m, isI r m ↔ PR (fC l) (nS l) (HP l (plN l l.length)) 16 a x m := by
 have hsz := ha.sz 16
 obtain ⟨r, ⟨q1, q2, q3⟩, q4⟩ := Afg (ff := fC l) (nf := nS l) (Qo hl) (fun i => ((hs.get i).gr 3).1) (fun y y0 y1 => ⟨Zk hl y0 y1, O5⟩) (fun y y0 y1 => ⟨Ab6 hs hl y0 y1, Pu⟩) 16 (Nat.le_refl _) a ha.ok [[C.int .i64 x]] (fun q hq => ⟨x, List.mem_singleton.1 hq, h0, h1⟩) (by rw [List.length_singleton]; omega)
 rw [List.length_singleton] at q3
 refine ⟨r, q1, q2, by omega, fun m => (q4 m).trans ?_⟩
 constructor
 ·rintro ⟨y, hy, hP⟩
  rw [Jk] at hy
  have hy : x = y := hy
  rw [hy]; exact hP
 ·intro hP
  exact ⟨x, Jk.2 rfl, hP⟩
theorem Tt {r : LL} : 0 < r.length ↔ ∃ m, isI r m := ⟨fun h => ⟨_, 0, h, rfl⟩, fun ⟨m, j, hj, _⟩ => by omega⟩
theorem Tv (h : Cb p) (hs : SmL BB l) (hl : l.length ≤ 40) (hd : Ga l) {x : Int} (h0 : 0 ≤ x) (h1 : x < (plN l l.length).length) {i : Nat} (hi : i ≤ (DD p).length) (hJ : ∀ j, j < i → Jd p l n s e E T j) {f : List C} (hf : ok 16 false f) (hsf : SmR BB f) (hz : 1 + 41 * sz 16 false f ≤ 10000) (hin : ∀ y, y ∈ inn 16 false f → ∃ j, j < i ∧ Bq true ((DD p).getD j []) y) :
  ∃ b, HH (DD p) ((DD p).map C7) (Ct 0 (DD p)) n s e E T (gi (evt l x) 0) (gs (evt l x) 1) (gs (evt l x) 2) (gr (evt l x) 3) (gs (evt l x) 4) (btx p l n s e E T x i) f b ∧ HD l (plN l l.length) f x b := by
 obtain ⟨p1, p2, p3, p4⟩ := I3 h0 h1
 have hg := h.ded.good
 have hal : (gr (evt l x) 3).length ≤ 1048576 := ((hs.get _).gr 3).1
 have hE : l.getD (gi ((plN l l.length).getD x.toNat []) 0).toNat [] = evt l x := by rw [p4, Int.toNat_natCast]; rfl
 have hu : EvU (evt l x) := Zd (hd.2.1 _ p1).1
 refine Aba (nn := n) (s := s) (e := e) (E := E) (T := T) (Se (p := []) h (Lp h x i) hal) (Qo hl) (fun i => ((hs.get i).gr 3).1) h0 h1 hE hu hi (fun j hj => ?_) 16 (Nat.le_refl _) f hf hsf hz hin
 have hjl : j < (DD p).length := by omega
 have hgj := hg _ (Eb (d := []) hjl)
 obtain ⟨r, r1, r2, r3, r4⟩ := Qb hs hl hd hgj h0 h1
 refine ⟨r, r1, ?_⟩
 have shp := Jo 16 _ _ _ 0 0 hgj.pok
 have s0 := shp.s0
 have s1 := shp.s1
 have hat := Ot (n := n) (s := s) (e := e) (E := E) (T := T) h hs x hjl s0 s1 i hj hi
 have e1 : ((DD p).map C7).getD j [] = C7 ((DD p).getD j []) := by simp [List.getD_eq_getElem?_getD, hjl]
 have e2 : gi ((Ct 0 (DD p)).getD j []) 0 + gi (((DD p).map C7).getD j []) 1 = Be ((DD p).take j) + (A4 ((DD p).getD j [])).s := by
  rw [M2 _ _ _ hjl, e1, Int.zero_add]; rfl
 unfold lb
 rw [Int.toNat_natCast, e2, decide_eq_true (show (0 : Int) ≤ (j : Int) by omega), Bool.true_and]
 have hat : (btx p l n s e E T x i).getD (Be ((DD p).take j) + (A4 ((DD p).getD j [])).s).toNat [] = [C.int .u8 (if gdx p l n s e E T x j (A4 ((DD p).getD j [])).s = true then 1 else 0)] := hat
 rw [hat]
 have hJj := hJ j hj x h0 h1
 have hpos : (0 < r.length) ↔ gdx p l n s e E T x j (A4 ((DD p).getD j [])).s = true := by
  rw [hJj, Tt]
  exact ⟨fun ⟨m, hm⟩ => ⟨m, (r4 m).1 hm⟩, fun ⟨m, hm⟩ => ⟨m, (r4 m).2 hm⟩⟩
 by_cases hh : gdx p l n s e E T x j (A4 ((DD p).getD j [])).s = true
 ·rw [if_pos hh, decide_eq_true (show (r.length : Int) > 0 by have := hpos.2 hh; omega)]; rfl
 ·rw [if_neg hh, decide_eq_false (show ¬ (r.length : Int) > 0 by intro g; exact hh (hpos.1 (by omega)))]; rfl
theorem Agf (h : Cb p) (hs : SmL BB l) (hl : l.length ≤ 40) (hd : Ga l) {i : Nat} (hi : i < (DD p).length) (hJ : ∀ j, j < i → Jd p l n s e E T j) {x : Int} (h0 : 0 ≤ x) (h1 : x < (plN l l.length).length) {t : Int} (t0 : 0 ≤ t) (t1 : t < (A4 ((DD p).getD i [])).T.length) : bt (hsx p l n s e E T x i) t = true ↔ HSi p l i t x := by
 have hg := h.ded.good
 have hgi := hg _ (Eb (d := []) hi)
 obtain ⟨j, rfl⟩ : ∃ j : Nat, t = j := ⟨t.toNat, by omega⟩
 have hj : j < (A4 ((DD p).getD i [])).T.length := by omega
 generalize hy : (A4 ((DD p).getD i [])).T.getD j [] = y
 have hym : y ∈ (A4 ((DD p).getD i [])).T := hy ▸ Eb hj
 have hok := Pq hgi (nf y) (List.mem_map.2 ⟨y, hym, rfl⟩)
 have hfl := Ue 16 _ hgi.ok 0 0 y hym
 obtain ⟨hz, hin⟩ := S4 (Nat.le_refl _) hgi.ok hgi.sz _ hfl
 have hz16 := hz 16
 obtain ⟨b, b1, b2⟩ := Tv (n := n) (s := s) (e := e) (E := E) (T := T) h hs hl hd h0 h1 (Nat.le_of_lt hi) hJ hok.ok hok.sm (by omega) (fun y' hy' => h.ded.ahead i hi _ (hin y' hy'))
 have hhb : hh (DD p) ((DD p).map C7) (Ct 0 (DD p)) n s e E T (gi (evt l x) 0) (gs (evt l x) 1) (gs (evt l x) 2) (gr (evt l x) 3) (gs (evt l x) 4) (btx p l n s e E T x i) (nf y) = b := Tot.uniq ((Pf ⟨b, b1⟩).rf) b1.rf
 have e1 : bt (hsx p l n s e E T x i) (j : Int) = b := by
  unfold bt hsx Gz
  rw [Int.toNat_natCast, List.getD_eq_getElem?_getD, List.getElem?_map, List.getElem?_map, List.getElem?_eq_getElem hj]
  simp only [Option.map_some, Option.getD_some]
  have : (A4 ((DD p).getD i [])).T[j] = y := by
   have hy' := hy
   rw [List.getD_eq_getElem?_getD, List.getElem?_eq_getElem hj] at hy'
   exact hy'
  rw [this, hhb]; rfl
 rw [e1]
 have hda : ∀ b, HD l (plN l l.length) (nf y) x b → HD l (plN l l.length) y x b := fun b hb f' hf' => hb f' ((Qz y).symm.trans hf')
 have hdb : ∀ b, HD l (plN l l.length) y x b → HD l (plN l l.length) (nf y) x b := fun b hb f' hf' => hb f' ((Qz y).trans hf')
 constructor
 ·intro hb
  subst hb
  refine ⟨j, rfl, hj, ?_⟩
  rw [hy]
  exact hda _ b2
 ·rintro ⟨j', e, _, hP⟩
  have : j = j' := by omega
  subst this
  rw [hy] at hP
  exact Qt b2 (hdb _ hP)
theorem Aa9 (h : Cb p) (hs : SmL BB l) (hl : l.length ≤ 40) (hd : Ga l) : ∀ i, i < (DD p).length → Jd p l n s e E T i := by
 have hg := h.ded.good
 intro i
 induction i using Nat.strongRecOn with
 | ind i ih =>
  intro hi
  have hJ : ∀ j, j < i → Jd p l n s e E T j := fun j hj => ih j hj (by omega)
  have hgi := hg _ (Eb (d := []) hi)
  have hpok := hgi.pok
  have shp : Shp 0 0 (A4 ((DD p).getD i [])) := Jo 16 _ _ _ 0 0 hpok
  obtain ⟨R, hR⟩ := fam (ff := fC l) (nf := nS l) (HT := HP l (plN l l.length)) (HS := HSi p l i) 16 ((DD p).getD i []) 0 0 hpok (tci i)
  have hR : Fam (fC l) (nS l) (HSi p l i) 0 (A4 ((DD p).getD i [])) (PR (fC l) (nS l) (HP l (plN l l.length)) 16 ((DD p).getD i [])) R := hR
  have hBk : Bk (fC l) (nS l) (HSi p l i) (A4 ((DD p).getD i [])) (PR (fC l) (nS l) (HP l (plN l l.length)) 16 ((DD p).getD i [])) := Fw 16 ((DD p).getD i []) 0 0 hpok (tci i)
  have hnst : nst ((DD p).getD i []) = (A4 ((DD p).getD i [])).n := rfl
  have htst : ∀ {x : Int}, 0 ≤ x → x < (plN l l.length).length → ∀ r, r ∈ (A4 ((DD p).getD i [])).E → gi r 2 = 3 → (bt (hsx p l n s e E T x i) (gi r 3) = true ↔ HSi p l i (gi r 3) x) := fun h0 h1 r hr hk => by
   have := (shp.ed r hr).2.2.2.2 hk
   exact Agf h hs hl hd hi hJ h0 h1 (by omega) (by omega)
  have hone : ∀ (y : Int) {q : Int}, 0 ≤ q → q < (A4 ((DD p).getD i [])).n → 0 ≤ y → y < (plN l l.length).length → one (sx p l n s e E T y).1 (sx p l n s e E T y).2.2 (Be ((DD p).take i) + q) = gdx p l n s e E T y i q := fun y q q0 q1 y0 y1 => Add h hs hd y0 y1 hi q0 (by rw [hnst]; exact q1)
  have hfst : ∀ (x : Int) {q : Int}, 0 ≤ q → q < (A4 ((DD p).getD i [])).n → (one (fs3 p l n s e E T x).1 (fs3 p l n s e E T x).2.2 (Be ((DD p).take i) + q) = true ↔ 0 ≤ fC l x ∧ gdx p l n s e E T (fC l x) i q = true) := fun x q q0 q1 => by
   unfold fs3
   by_cases hf : 0 ≤ fC l x
   ·have hfb : fC l x < (plN l l.length).length := by rcases O5 (l := l) (n := x) with g | g <;> omega
    rw [if_pos hf, hone _ q0 q1 hf hfb]
    exact ⟨fun e => ⟨hf, e⟩, fun e => e.2⟩
   ·rw [if_neg hf]
    exact ⟨fun e => (by cases e), fun e => absurd e.1 hf⟩
  have hnxt : ∀ (x : Int) {q : Int}, 0 ≤ q → q < (A4 ((DD p).getD i [])).n → (one (ns3 p l n s e E T x).1 (ns3 p l n s e E T x).2.2 (Be ((DD p).take i) + q) = true ↔ 0 ≤ nS l x ∧ gdx p l n s e E T (nS l x) i q = true) := fun x q q0 q1 => by
   unfold ns3
   by_cases hf : 0 ≤ nS l x
   ·have hfb : nS l x < (plN l l.length).length := by rcases Pu (l := l) (n := x) with g | g <;> omega
    rw [if_pos hf, hone _ q0 q1 hf hfb]
    exact ⟨fun e => ⟨hf, e⟩, fun e => e.2⟩
   ·rw [if_neg hf]
    exact ⟨fun e => (by cases e), fun e => absurd e.1 hf⟩
  have gd_iff : ∀ (x q : Int), gdx p l n s e E T x i q = true ↔ Gd (A4 ((DD p).getD i [])).E (hsx p l n s e E T x i) (exb (fs3 p l n s e E T x).1 (fs3 p l n s e E T x).2.2 (ns3 p l n s e E T x).1 (ns3 p l n s e E T x).2.2 (Be ((DD p).take i))) (A4 ((DD p).getD i [])).e q := fun x q => by
   unfold gdx gd
   simp only [decide_eq_true_eq]
  have fwd : ∀ (k : Nat) (x : Int), 0 ≤ x → x < (plN l l.length).length → ((plN l l.length).length : Int) - x ≤ k → ∀ q, gdx p l n s e E T x i q = true → ∃ m, R q x m := by
   intro k
   induction k with
   | zero => intro x h0 h1 hk; omega
   | succ k ihk =>
    intro x h0 h1 hk q hq
    replace hq := (gd_iff x q).1 hq
    induction hq with
    | fin => exact ⟨x, hR.fin x⟩
    | @ex r hr hex =>
     have hed := shp.ed r hr
     unfold exb at hex
     rw [Bool.or_eq_true, Bool.and_eq_true, Bool.and_eq_true, beq_iff_eq, beq_iff_eq] at hex
     rcases hex with ⟨hk1, ho⟩ | ⟨hk2, ho⟩
     ·obtain ⟨f0, fg⟩ := (hfst x hed.2.2.1 hed.2.2.2.1).1 ho
      have hgt := Ne f0
      have hfb : fC l x < (plN l l.length).length := by rcases O5 (l := l) (n := x) with g | g <;> omega
      obtain ⟨m, hm⟩ := ihk (fC l x) f0 hfb (by omega) _ fg
      exact ⟨m, hR.cl r hr x (fC l x) (.inr (.inl ⟨hk1, rfl, f0⟩)) m hm⟩
     ·obtain ⟨f0, fg⟩ := (hnxt x hed.2.2.1 hed.2.2.2.1).1 ho
      have hgt := Nq f0
      have hfb : nS l x < (plN l l.length).length := by rcases Pu (l := l) (n := x) with g | g <;> omega
      obtain ⟨m, hm⟩ := ihk (nS l x) f0 hfb (by omega) _ fg
      exact ⟨m, hR.cl r hr x (nS l x) (.inr (.inr (.inl ⟨hk2, rfl, f0⟩))) m hm⟩
    | @step r hr hen _ ihg =>
     obtain ⟨m, hm⟩ := ihg
     refine ⟨m, hR.cl r hr x x ?_ m hm⟩
     rcases hen with h | ⟨h, ht⟩
     ·exact .inl ⟨h, rfl⟩
     ·exact .inr (.inr (.inr ⟨h, rfl, (htst h0 h1 r hr h).1 ht⟩))
  intro x h0 h1
  constructor
  ·intro hq
   obtain ⟨m, hm⟩ := fwd ((plN l l.length).length - x).toNat x h0 h1 (by omega) _ hq
   exact ⟨m, hR.st x m hm⟩
  ·rintro ⟨m, hm⟩
   obtain ⟨r, r1, r2, r3, r4⟩ := Qb hs hl hd hgi h0 h1
   have hmb := Pi r2 ((r4 m).2 hm)
   have key := hBk (fun y q => 0 ≤ y ∧ y < (plN l l.length).length ∧ gdx p l n s e E T y i q = true) (fun r hr y y' hst hz => ?_) x m hm ⟨hmb.1, hmb.2, (gd_iff m _).2 .fin⟩
   ·exact key.2.2
   ·obtain ⟨z0, z1, z2⟩ := hz
    have hed := shp.ed r hr
    rcases hst with ⟨hk, e⟩ | ⟨hk, e, f0⟩ | ⟨hk, e, f0⟩ | ⟨hk, e, hH⟩
    ·subst e
     exact ⟨z0, z1, (gd_iff _ _).2 (.step hr (.inl hk) ((gd_iff _ _).1 z2))⟩
    ·subst e
     have hgt := Ne f0
     refine ⟨hgt.2.1, hgt.2.2.1, (gd_iff _ _).2 (.ex hr ?_)⟩
     unfold exb
     rw [Bool.or_eq_true, Bool.and_eq_true, beq_iff_eq]
     exact .inl ⟨hk, (hfst y hed.2.2.1 hed.2.2.2.1).2 ⟨f0, z2⟩⟩
    ·subst e
     have hgt := Nq f0
     refine ⟨by omega, hgt.2.2.1, (gd_iff _ _).2 (.ex hr ?_)⟩
     unfold exb
     rw [Bool.or_eq_true, Bool.and_eq_true, Bool.and_eq_true, beq_iff_eq, beq_iff_eq]
     exact .inr ⟨hk, (hnxt y hed.2.2.1 hed.2.2.2.1).2 ⟨f0, z2⟩⟩
    ·subst e
     exact ⟨z0, z1, (gd_iff _ _).2 (.step hr (.inr ⟨hk, (htst z0 z1 r hr hk).2 hH⟩) ((gd_iff _ _).1 z2))⟩
end
section
variable {p : List C} {l : LL} {n s e : Int} {E T : LL}
theorem Yi (h : Cb p) (x : Int) : ∀ k, ∀ j, j < (btx p l n s e E T x k).length → (btx p l n s e E T x k).getD j [] = [C.int .u8 0] ∨ (btx p l n s e E T x k).getD j [] = [C.int .u8 1] := by
 intro k
 induction k with
 | zero =>
  intro j hj
  have hj' : j < (List.replicate (Be (DD p)).toNat [C.int .u8 0]).length := hj
  rw [List.length_replicate] at hj'
  left
  show (List.replicate (Be (DD p)).toNat [C.int .u8 0]).getD j [] = _
  rw [List.getD_eq_getElem?_getD, List.getElem?_replicate, if_pos hj']
  rfl
 | succ k ih =>
  intro j hj
  rw [Ou] at hj ⊢
  rw [Fv] at hj
  rw [Hn hj]
  split
  ·exact .inr rfl
  ·exact ih j hj
theorem Aez {rows : LL} (hr : ∀ j, j < rows.length → rows.getD j [] = [C.int .u8 0] ∨ rows.getD j [] = [C.int .u8 1]) : Fh (Ee rows) = rows := by
 refine Nc (by rw [Pp, I4]) fun j hj => ?_
 rw [Pp, I4] at hj
 have hb := Ny (rows := rows) (fun j hj => by rcases hr j hj with h | h <;> rw [h] <;> simp [gi, C.it] <;> first | exact .inl rfl | exact .inr rfl) hj
 unfold Fh
 rw [List.getD_eq_getElem?_getD, List.getElem?_map]
 have hsz : (Ee rows).data.toList.length = rows.length := by rw [← Lib.size_eq, I4]
 rw [List.getElem?_eq_getElem (by omega)]
 simp only [Option.map_some, Option.getD_some]
 have e : ((Ee rows).data.toList[j]'(by omega)).toNat = (gi (rows.getD j []) 0).toNat := by
  rw [← hb, Array.getD_eq_getD_getElem?]
  have : (Ee rows).data[j]? = some ((Ee rows).data.toList[j]'(by omega)) := by
   rw [← Array.getElem?_toList, List.getElem?_eq_getElem (by omega)]
  rw [this]; rfl
 rw [e]
 rcases hr j hj with h | h <;> rw [h] <;> rfl
theorem Aer (h : Cb p) (x : Int) (kk : Nat) (tx : Bool) : Tot (fun j _ _ => (lv j).Cd (DD p) ((DD p).map C7) (Ct 0 (DD p)) n s e E T true tx (Ee (btx p l n s e E T x kk))) (fun r => r = true) := by
 have hg := h.ded.good
 have hlen : (DD p).length ≤ 63 := Nat.le_trans h.ded.len h.len
 have hb := F7 hg
 have hbl := Lp (n := n) (s := s) (e := e) (E := E) (T := T) (l := l) h x kk
 have hsz : (Ee (btx p l n s e E T x kk)).size = (btx p l n s e E T x kk).length := I4 _
 refine Cd_up _ _ _ _ _ _ _ _ _ _ _ (Tot.congr ?_ (fun _ _ _ => Cd_q ..))
 refine Tot.f rfl (Tot.in0 (Tot.loop (H := fun j p_ q_ v (_ : Unit) => Cd_l0 (lv j) j (DD p) ((DD p).map C7) (Ct 0 (DD p)) n s e E T true tx (Ee (btx p l n s e E T x kk)) p_ v) (n := (btx p l n s e E T x kk).length) (fun _ _ => True) (by omega) (fun _ _ => ?_) (fun i _ hi _ next => ?_) _ 0 () rfl (by omega) trivial))
 ·refine Tot.step0 (fun j p_ q_ => Cd_l0_q (lv j) j (DD p) ((DD p).map C7) (Ct 0 (DD p)) n s e E T true tx (Ee (btx p l n s e E T x kk)) p_ _) ?_
  rw [hsz]
  refine Tot.f (decide_eq_false (by omega)) (Tot.bind (Aew _ _ _ _ _ _ _ _ (DD p) C7 rfl (fun _ => rfl) hg (by omega)) fun r hr => Tot.ret ?_)
  subst hr
  rw [beq_iff_eq]
  exact hbl
 ·refine Tot.step0 (fun j p_ q_ => Cd_l0_q (lv j) j (DD p) ((DD p).map C7) (Ct 0 (DD p)) n s e E T true tx (Ee (btx p l n s e E T x kk)) p_ _) ?_
  rw [hsz, Int.toNat_natCast, Ny (M6 h x kk) hi]
  repeat (refine Tot.t (decide_eq_true (by omega)) ?_)
  refine Tot.f (decide_eq_false ?_) (next () trivial)
  rcases M6 h x kk i hi with g | g <;> rw [g] <;> decide
end
theorem Age (p : List C) (l : LL) (hp : SmR BB p) (hs : SmL BB l) : Tot (fun k _ _ => (lv k).Av (gi p 0) (gr p 1) (gr p 2) l) (fun r => r = true) := by
 have aw : Tot (fun n _ _ => ((lv n).Dt).bind fun r => some r) (fun r => r = true) := Tot.bind Ri fun r hr => Tot.ret hr
 refine Av_up _ _ _ _ (Tot.congr ?_ (fun _ _ _ => Av_q ..))
 refine Tot.bind Ri fun r hr => ?_
 subst hr
 refine Tot.f rfl (Tot.bind (Aes p hp) fun r hr => Tot.cond (fun _ => aw) (fun hb => ?_))
 have hrt : r = true := by simpa using hb
 subst hrt
 have h := Agh hp (hr rfl)
 refine Tot.cond (fun _ => aw) (fun hl => ?_)
 have hl : l.length ≤ 40 := by have := of_decide_eq_false hl; omega
 refine Tot.bind (Zm l (by omega) (fun i => ((hs.get i).gr 3).1)) fun r _ => Tot.cond (fun _ => aw) (fun _ => ?_)
 refine Tot.bind (Afc l hs) fun r hr => Tot.cond (fun _ => aw) (fun hb => ?_)
 have hd := hr.1 (by simpa using hb)
 refine Tot.bind (Abx l hl) fun w hw => ?_
 subst hw
 refine Tot.bind (Aex h) fun r hr => ?_
 subst hr
 refine Tot.bind (Ag5 h hs hd) fun g hg => ?_
 obtain ⟨hg1, hg2⟩ := hg
 have hcl := Jg l l.length
 have hpn := I2 l l.length
 refine Tot.f ?_ ?_
 ·show (!((g.length : Int) == ((plN l l.length).length : Int))) = false
  rw [hg1, hpn, beq_self_eq_true]; rfl
 have hgd := h.ded.good
 have hlen : (DD p).length ≤ 63 := Nat.le_trans h.ded.len h.len
 have hsb := F7 hgd
 have jd := Aa9 (n := (A4 p).n) (s := (A4 p).s) (e := (A4 p).e) (E := (A4 p).E) (T := (A4 p).T.map nf) h hs hl hd
 have hTl : ((A4 p).T.map nf).length ≤ 64 := by rw [List.length_map]; exact (Pr h).2.1
 dsimp only
 generalize hnn : (A4 p).n = nn at *
 generalize hss : (A4 p).s = ss at *
 generalize hee : (A4 p).e = ee at *
 generalize hEE : (A4 p).E = EE at *
 generalize hTT : (A4 p).T.map nf = TT at *
 refine Tot.in0 (Tot.loop (H := fun k p_ q_ v (_ : Unit) => Av_l0 (lv k) k (gi p 0) (gr p 1) (gr p 2) l p_ v l nn ss ee EE TT g (plN l l.length) (DD p) ((DD p).map C7) (Ct 0 (DD p))) (n := g.length) (fun _ _ => True) (by omega) (fun _ _ => ?_) (fun i _ hi _ next => ?_) _ 0 () rfl (by omega) trivial)
 ·refine Tot.step0 (fun _ _ _ => Av_l0_q ..) ?_
  exact Tot.f (decide_eq_false (by omega)) (Tot.ret rfl)
 ·have x1 : (i : Int) < (plN l l.length).length := by omega
  have x0 : (0 : Int) ≤ i := by omega
  obtain ⟨p1, p2, p3, p4⟩ := I3 x0 x1
  rw [Int.toNat_natCast] at p4
  have hrow : g.getD i [] = c3 (sx p l nn ss ee EE TT i) := by
   have := hg2 (plc l i) p1 p2
   rw [show Bw l (plc l i) = i by omega] at this
   exact this
  have hsx := Wf (p := p) (n := nn) (s := ss) (e := ee) (E := EE) (T := TT) hd x0 x1
  have r0 : gb (g.getD i []) 0 = true := by rw [hrow, hsx]; rfl
  have r1 : gb (g.getD i []) 1 = (gi (evt l i) 0 == 2) := by rw [hrow, hsx]; rfl
  have r2 : gs (g.getD i []) 2 = Ee (btx p l nn ss ee EE TT i (DD p).length) := by rw [hrow, hsx]; rfl
  have hbl := Lp (n := nn) (s := ss) (e := ee) (E := EE) (T := TT) (l := l) h i (DD p).length
  have hsz : (Ee (btx p l nn ss ee EE TT i (DD p).length)).size = (btx p l nn ss ee EE TT i (DD p).length).length := I4 _
  have hev : l.getD (gi ((plN l l.length).getD i []) 0).toNat [] = evt l i := by rw [p4, Int.toNat_natCast]; rfl
  refine Tot.step0 (fun _ _ _ => Av_l0_q ..) ?_
  rw [Int.toNat_natCast, r0, r1, r2, hev, p4]
  repeat (refine Tot.t (decide_eq_true (by omega)) ?_)
  refine Tot.bind (Aer h i (DD p).length _) fun b hb => ?_
  subst hb
  refine Tot.f rfl ?_
  repeat (refine Tot.t (decide_eq_true (by omega)) ?_)
  refine Tot.f rfl ?_
  repeat (refine Tot.t (decide_eq_true (by omega)) ?_)
  refine Tot.f (by simp) ?_
  refine Tot.in1 (Tot.loop (H := fun k p_ q_ v (_ : Unit) => Av_l1 (lv k) k (gi p 0) (gr p 1) (gr p 2) l p_ q_ (i : Int) v l nn ss ee EE TT g (plN l l.length) (DD p) ((DD p).map C7) (Ct 0 (DD p))) (n := (DD p).length) (fun _ _ => True) (by omega) (fun _ _ => ?_) (fun j _ hj _ next2 => ?_) _ 0 () rfl (by omega) trivial)
  ·refine Tot.step1 (fun _ _ _ => Av_l1_q ..) ?_
   refine Tot.f (decide_eq_false (by omega)) ?_
   refine Tot.in1 (Tot.loop (H := fun k p_ q_ v (_ : Unit) => Av_l2 (lv k) k (gi p 0) (gr p 1) (gr p 2) l p_ q_ (i : Int) v l nn ss ee EE TT g (plN l l.length) (DD p) ((DD p).map C7) (Ct 0 (DD p))) (n := TT.length) (fun _ _ => True) (by omega) (fun _ _ => ?_) (fun j _ hj _ next3 => ?_) _ 0 () rfl (by omega) trivial)
   ·refine Tot.step1 (fun _ _ _ => Av_l2_q ..) ?_
    exact Tot.f (decide_eq_false (by omega)) (next () trivial)
   ·refine Tot.step1 (fun _ _ _ => Av_l2_q ..) ?_
    rw [Int.toNat_natCast, Int.toNat_natCast, r2, hev, p4, hsz, Aez (Yi h i _)]
    repeat (refine Tot.t (decide_eq_true (by omega)) ?_)
    refine Tot.t (D5 Rx (by omega)) ?_
    have hm : TT.getD j [] ∈ TT := Eb hj
    have hok : OkF (TT.getD j []) := Pq h _ (by rw [hTT]; exact hm)
    have hfl : TT.getD j [] ∈ fl 16 true p := by
     have hm' := hm
     rw [← hTT] at hm'
     obtain ⟨y, hy, e⟩ := List.mem_map.1 hm'
     rw [hTT] at e
     rw [← e]
     exact Ue 16 _ h.ok 0 0 y hy
    obtain ⟨hz, hin⟩ := S4 (Nat.le_refl _) h.ok h.sz _ hfl
    have hz16 := hz 16
    obtain ⟨b, b1, b2⟩ := Tv (n := nn) (s := ss) (e := ee) (E := EE) (T := TT) h hs hl hd x0 x1 (Nat.le_refl _) (fun j hj => jd j hj) hok.ok hok.sm (by omega) (fun y hy => by
     obtain ⟨z, hz, ha⟩ := h.ded.al y (hin y hy)
     obtain ⟨j, hj, rfl⟩ := Fe hz
     exact ⟨j, hj, ha⟩)
    refine Tot.bind b1.rf fun r hr => ?_
    subst hr
    repeat (refine Tot.t (decide_eq_true (by omega)) ?_)
    refine Tot.bind (b2 _ (Bq.refl _ _)) fun r hr => ?_
    subst hr
    exact Tot.f (by simp) (next3 () trivial)
  ·have hgj := hgd _ (Eb (d := []) hj)
   have shp := Jo 16 _ _ _ 0 0 hgj.pok
   have s0 : 0 ≤ (A4 ((DD p).getD j [])).s := shp.s0
   have s1 : (A4 ((DD p).getD j [])).s < nst ((DD p).getD j []) := shp.s1
   have e1 : ((DD p).map C7).getD j [] = C7 ((DD p).getD j []) := by simp [List.getD_eq_getElem?_getD, hj]
   have e2 : gi ((Ct 0 (DD p)).getD j []) 0 + gi (((DD p).map C7).getD j []) 1 = Be ((DD p).take j) + (A4 ((DD p).getD j [])).s := by
    rw [M2 _ _ _ hj, e1, Int.zero_add]; rfl
   have tb := (F7 (Ix hgd j)).1
   have tl := La hgd hj
   have hbs : (Ct 0 (DD p)).length = (DD p).length := M3 _ _
   have hmp : ((DD p).map C7).length = (DD p).length := by simp
   have hat := Ot (n := nn) (s := ss) (e := ee) (E := EE) (T := TT) h hs i hj s0 s1 (DD p).length hj (Nat.le_refl _)
   obtain ⟨r, q1, q2, q3, q4⟩ := Qb hs hl hd hgj x0 x1
   refine Tot.step1 (fun _ _ _ => Av_l1_q ..) ?_
   rw [Int.toNat_natCast, Int.toNat_natCast, e2, r2, hsz, Ai (by omega) (by omega), Ny (M6 h i _) (by omega), hat]
   repeat (refine Tot.t (decide_eq_true (by omega)) ?_)
   refine Tot.bind (Aag (a := l) (Qo hl) (q1 _ (Bq.refl _ _)) q2 q3) fun y hy => ?_
   refine Tot.f ?_ (next2 () trivial)
   have hJ := jd j hj i x0 x1
   have hpos : 0 < y.length ↔ gdx p l nn ss ee EE TT i j (A4 ((DD p).getD j [])).s = true := by
    rw [hJ, hy, Tt]
    exact ⟨fun ⟨m, hm⟩ => ⟨m, (q4 m).1 hm⟩, fun ⟨m, hm⟩ => ⟨m, (q4 m).2 hm⟩⟩
   by_cases hh : gdx p l nn ss ee EE TT i j (A4 ((DD p).getD j [])).s = true
   ·rw [if_pos hh, decide_eq_true (show (y.length : Int) > 0 by have := hpos.2 hh; omega)]; rfl
   ·rw [if_neg hh, decide_eq_false (show ¬ (y.length : Int) > 0 by intro g; exact hh (hpos.1 (by omega)))]; rfl
end Go.Vm.T
