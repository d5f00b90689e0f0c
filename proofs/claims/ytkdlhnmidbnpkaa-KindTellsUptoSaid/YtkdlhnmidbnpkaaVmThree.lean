/- A machine of values: a call comes to what the machine says. -/
import Derived.Test.YtkdlhnmidbnpkaaVmTwo
import Derived.LoopN
import Derived.Scope
import Derived.Laws.Sem
import Derived.ChangeArms
import Derived.ChangeOld
import Derived.Laws.World
import Derived.Test.YtkdlhnmidbnpkaaVmOne
import Derived.IntWalk
import Derived.WideShapes
import Derived.Laws.Strings
set_option linter.unusedVariables false
set_option linter.unusedSimpArgs false
namespace Go.Vm
open Go
variable {P : Program} {st st' : St} {o : Oper} {u : Up} {id : Nat}
def Ef (st st' : St) (l : List Nat) : Prop := ∀ i, i ∈ l → Aa st'.ob i = Aa st.ob i
theorem Iz {x : Operand} (h : st'.opd x = st.opd x) (t : TypeId) : st'.opdT P t x = st.opdT P t x := by
 unfold St.opdT
 split
 ·rfl
 ·rfl
 ·exact h
theorem L9 {x : Operand} (h : st'.opd x = st.opd x) (t : TypeId) : st'.opdF P t x = st.opdF P t x := by
 unfold St.opdF
 rw [Iz h]
theorem Ma {x : Operand} (h : st'.opd x = st.opd x) : st'.opdInt x = st.opdInt x := by
 unfold St.opdInt
 rw [h]
theorem Wk {v : SV} (h : Ef st st' v.ids) : st'.toC v = st.toC v := by
 cases v with
 | arr i => simp only [St.toC]; rw [h i (by simp [SV.ids])]
 | sub i lo n => simp only [St.toC]; rw [h i (by simp [SV.ids])]
 | _ => rfl
theorem N7 : ∀ {l : List SV}, Ef st st' (Cy l) → st'.toCs l = st.toCs l := by
 intro l
 induction l with
 | nil => intro _; rfl
 | cons v l ih =>
  intro h
  simp only [St.toCs]
  rw [Wk (fun i hi => h i (by simp [Cy, hi])), ih (fun i hi => h i (by simp [Cy, hi]))]
theorem O8 : ∀ {l : List Nat}, Ef st st' l → st'.freeze l = st.freeze l := by
 intro l
 induction l with
 | nil => intro _; rfl
 | cons i l ih =>
  intro h
  simp only [St.freeze]
  rw [h i List.mem_cons_self, ih (fun j hj => h j (List.mem_cons_of_mem _ hj))]
theorem Abp {t : TypeId} {x : Operand} (hx : st'.opd x = st.opd x) (h : H6 P st t x = some u) (hs : Ef st st' u.rd) : H6 P st' t x = some u := by
 unfold H6 at *
 rw [hx]
 split at h
 ·rename_i i off he
  split at h
  ·rename_i hl
   split at h
   ·rename_i hp
    cases h
    rw [hs _ List.mem_cons_self]
    simp only [hl, hp]
   ·cases h
  ·cases h
 ·rename_i i r off he
  split at h
  ·rename_i hl
   split at h
   ·rename_i hk
    split at h
    ·rename_i hp
     cases h
     rw [hs _ List.mem_cons_self]
     simp only [hl, hk, hp]
    ·cases h
   ·cases h
  ·cases h
 ·exact h
 ·cases h
theorem Af6 {t : TypeId} {x y : Operand} (hx : st'.opd x = st.opd x) (hy : st'.opd y = st.opd y) (h : Kv P st t x y = some u) (hs : Ef st st' u.rd) : Kv P st' t x y = some u := by
 unfold Kv at *
 rw [hx, L9 hy]
 split at h
 ·rename_i i off he
  split at h
  ·rename_i hl
   split at h
   ·rename_i hv
    split at h
    ·rename_i h1 h2 h3
     cases h
     rw [hs _ List.mem_cons_self]
     simp only [hl, hv, h1, h2, h3]
    ·cases h
   ·cases h
  ·cases h
 ·rename_i i r off he
  split at h
  ·rename_i hl
   split at h
   ·rename_i hk
    split at h
    ·rename_i vc hv
     split at h
     ·rename_i hc
      split at h
      ·rename_i h1 h2 h3 h4
       split at h
       ·cases h
       ·rename_i h5
        cases h
        have hs' : Ef st st' (Cy vc) := fun j hj => hs j (List.mem_cons_of_mem _ hj)
        rw [hs _ List.mem_cons_self, O8 hs']
        simp only [hl, hk, hv, N7 hs', hc, h1, h2, h3, h4, h5]
      ·cases h
     ·cases h
    ·cases h
   ·cases h
  ·cases h
 ·cases h
theorem Aax {t : TypeId} {x y : Operand} (hx : st'.opd x = st.opd x) (hy : st'.opd y = st.opd y) (h : Jr some P st t x y = some u) (hs : Ef st st' u.rd) : Jr some P st' t x y = some u := by
 unfold Jr at *
 rw [hx, Ma hy]
 split at h
 ·exact h
 ·rename_i i n he
  split at h
  ·rename_i hl
   split at h
   ·rename_i hk
    split at h
    ·rename_i h1
     split at h
     ·rename_i h2
      cases h
      rw [hs _ List.mem_cons_self]
      simp only [hl, hk, h1, h2]
     ·cases h
    ·cases h
   ·cases h
  ·cases h
 ·rename_i i lo m n he
  split at h
  ·rename_i hl
   split at h
   ·rename_i hk
    split at h
    ·rename_i h1
     split at h
     ·rename_i h2
      cases h
      rw [hs _ List.mem_cons_self]
      simp only [hl, hk, h1, h2]
     ·cases h
    ·cases h
   ·cases h
  ·cases h
 ·cases h
theorem Zo {t : TypeId} {x : Operand} {j : Nat} (hx : st'.opd x = st.opd x) (h : Ks P st t x j = some u) (hs : Ef st st' u.rd) : Ks P st' t x j = some u := by
 unfold Ks at *
 rw [hx]
 split at h
 ·split at h
  ·rename_i i off he
   split at h
   ·rename_i hl
    cases h
    rw [hs _ List.mem_cons_self]
    simp only [hl]
   ·cases h
  ·rename_i i r off he
   split at h
   ·rename_i hl
    cases h
    rw [hs _ List.mem_cons_self]
    simp only [hl]
   ·cases h
  ·exact h
  ·cases h
 ·cases h
theorem Zp {t : TypeId} {x : Operand} {j : Nat} (hx : st'.opd x = st.opd x) (h : Kr P st t x j = some u) : Kr P st' t x j = some u := by
 unfold Kr at *
 rw [hx]
 exact h
theorem Rt {x : Option Operand} (h : ∀ y, x = some y → st'.opd y = st.opd y) (d : Int) : E4 st' x d = E4 st x d := by
 cases x with
 | none => rfl
 | some x => exact Ma (h x rfl)
theorem Afr {t : TypeId} {x : Operand} {lo hi : Option Operand} (hx : st'.opd x = st.opd x) (hlo : ∀ y, lo = some y → st'.opd y = st.opd y) (hhi : ∀ y, hi = some y → st'.opd y = st.opd y) (h : Jt some P st t x lo hi = some u) (hs : Ef st st' u.rd) : Jt some P st' t x lo hi = some u := by
 unfold Jt at *
 rw [hx]
 simp only [Rt hlo, Rt hhi]
 split at h
 ·exact h
 ·exact h
 ·exact h
 ·rename_i i he
  split at h
  ·rename_i hl
   have hu : ∃ b, u = ⟨.one b, [], [i]⟩ := by
    split at h
    ·have h2 := (Ji h).2.2.2.2
     simp only [Option.some.injEq] at h2
     exact ⟨_, h2.symm⟩
    ·cases h
   obtain ⟨b, rfl⟩ := hu
   rw [hs _ List.mem_cons_self]
   simp only [hl]
   exact h
  ·cases h
 ·rename_i i l0 m he
  split at h
  ·rename_i hl
   have hu : ∃ b, u = ⟨.one b, [], [i]⟩ := by
    split at h
    ·have h2 := (Ji h).2.2.2.2
     simp only [Option.some.injEq] at h2
     exact ⟨_, h2.symm⟩
    ·cases h
   obtain ⟨b, rfl⟩ := hu
   rw [hs _ List.mem_cons_self]
   simp only [hl]
   exact h
  ·cases h
 ·cases h
theorem Aay {t : TypeId} {x y : Operand} (hx : st'.opd x = st.opd x) (hy : st'.opd y = st.opd y) (h : Jq some P st t x y = some u) : Jq some P st' t x y = some u := by
 unfold Jq at *
 rw [hx, Ma hy]
 exact h
theorem Abm {t : TypeId} {x : Operand} (hx : st'.opd x = st.opd x) (h : Kt P st t x = some u) (hs : Ef st st' u.rd) : Kt P st' t x = some u := by
 unfold Kt at *
 rw [hx]
 split at h
 ·exact h
 ·exact h
 ·exact h
 ·rename_i i he
  split at h
  ·rename_i hl
   split at h
   ·rename_i hk
    cases h
    rw [hs _ List.mem_cons_self]
    simp only [hl, hk]
   ·cases h
  ·cases h
 ·rename_i i lo m he
  split at h
  ·rename_i hl
   split at h
   ·rename_i hk
    cases h
    rw [hs _ List.mem_cons_self]
    simp only [hl, hk]
   ·cases h
  ·cases h
 ·cases h
theorem Vn {e : TypeId} {v : SV} {r : List (List C) × List Nat} (h : st.rowOf e v = some r) (hs : Ef st st' r.2) : st'.rowOf e v = some r := by
 unfold St.rowOf at *
 split at h
 ·exact h
 ·exact h
 ·rename_i i
  split at h
  ·rename_i hl
   split at h
   ·rename_i hb
    cases h
    rw [hs _ List.mem_cons_self]
    simp only [hl, hb]
   ·cases h
  ·cases h
 ·rename_i i lo n
  split at h
  ·rename_i hl
   split at h
   ·rename_i hb
    cases h
    rw [hs _ List.mem_cons_self]
    simp only [hl, hb]
   ·cases h
  ·cases h
 ·cases h
theorem W6 {e t : TypeId} {x : Operand} {r : List (List C) × List Nat} (hx : st'.opd x = st.opd x) (h : Ha P st e t x = some r) (hs : Ef st st' r.2) : Ha P st' e t x = some r := by
 unfold Ha at *
 rw [Iz hx]
 split at h
 ·exact h
 ·rename_i v hne hv
  split at h
  ·rename_i hk
   exact Vn h hs
  ·cases h
 ·cases h
theorem Xp {t t2 : TypeId} {x y : Operand} (hx : st'.opd x = st.opd x) (hy : st'.opd y = st.opd y) (h : H4 some P st id t t2 x y = some u) (hs : Ef st st' u.rd) : H4 some P st' id t t2 x y = some u := by
 unfold H4 at *
 rw [Iz hx]
 split at h
 ·rename_i z new ids h1 h2 h3
  have hu : (∀ i, i ∈ ids → i ∈ u.rd) → Ha P st' (D6 P t) t2 y = some (new, ids) := fun hsub => W6 hy h3 (fun i hi => hs i (hsub i hi))
  split at h
  ·split at h
   ·rename_i h5
    cases h
    rw [hu (fun _ h => h)]
    simp only [h1, h2, h5]
   ·cases h
  ·split at h
   ·rename_i hl
    split at h
    ·rename_i hb
     split at h
     ·rename_i h5
      cases h
      rw [hu (fun _ h => List.mem_cons_of_mem _ h), hs _ List.mem_cons_self]
      simp only [h1, h2, hl, hb, h5]
     ·cases h
    ·cases h
   ·cases h
  ·split at h
   ·rename_i hl
    split at h
    ·rename_i hb
     split at h
     ·rename_i h5
      cases h
      rw [hu (fun _ h => List.mem_cons_of_mem _ h), hs _ List.mem_cons_self]
      simp only [h1, h2, hl, hb, h5]
     ·cases h
    ·cases h
   ·cases h
  ·cases h
 ·cases h
theorem Aby {t : TypeId} {x y : Operand} (hx : st'.opd x = st.opd x) (hy : st'.opd y = st.opd y) (h : Js some P st id t x y = some u) : Js some P st' id t x y = some u := by
 unfold Js at *
 rw [Ma hx, Ma hy]
 exact h
theorem Zq {e : TypeId} : ∀ {parts : List (Nat × Operand)} {l : List SV}, (∀ x, x ∈ parts.map (·.2) → st'.opd x = st.opd x) → Gf P e st' l parts = Gf P e st l parts := by
 intro parts
 induction parts with
 | nil => intro l _; rfl
 | cons p parts ih =>
  intro l h
  obtain ⟨j, x⟩ := p
  simp only [Gf]
  rw [L9 (h x (by simp))]
  have ih' : ∀ l, Gf P e st' l parts = Gf P e st l parts := fun l => ih fun y hy => h y (by simp at hy ⊢; exact .inr hy)
  simp only [ih']
theorem Zv {t : TypeId} : ∀ {parts : List (Nat × Operand)} {l : List SV}, (∀ x, x ∈ parts.map (·.2) → st'.opd x = st.opd x) → Gg P t st' l parts = Gg P t st l parts := by
 intro parts
 induction parts with
 | nil => intro l _; rfl
 | cons p parts ih =>
  intro l h
  obtain ⟨j, x⟩ := p
  simp only [Gg]
  have hF : ∀ t, st'.opdF P t x = st.opdF P t x := L9 (h x (by simp))
  have ih' : ∀ l, Gg P t st' l parts = Gg P t st l parts := fun l => ih fun y hy => h y (by simp at hy ⊢; exact .inr hy)
  simp only [hF, ih']
theorem Zt {e : TypeId} {ks : List Kn} : ∀ {parts : List (Nat × Operand)} {l : List (List C)} {r : List (List C) × List Nat}, (∀ x, x ∈ parts.map (·.2) → st'.opd x = st.opd x) → Ir P e st ks l parts = some r → Ef st st' r.2 → Ir P e st' ks l parts = some r := by
 intro parts
 induction parts with
 | nil => intro l r _ h _; exact h
 | cons p parts ih =>
  intro l r hx h hs
  obtain ⟨j, x⟩ := p
  simp only [Ir] at h ⊢
  have hF : ∀ t, st'.opdF P t x = st.opdF P t x := L9 (hx x (by simp))
  rw [hF]
  split at h
  ·rename_i vc hv
   split at h
   ·rename_i cs hc
    split at h
    ·rename_i h1 h2
     split at h
     ·rename_i l' ids hr
      cases h
      have hs1 : Ef st st' (Cy vc) := fun i hi => hs i (List.mem_append_left _ hi)
      have hr' := ih (fun y hy => hx y (by simp at hy ⊢; exact .inr hy)) hr (fun i hi => hs i (List.mem_append_right _ hi))
      simp only [hv, N7 hs1, hc, h1, h2, hr']
     ·cases h
    ·cases h
   ·cases h
  ·cases h
theorem Yj {t : TypeId} {len : Nat} {parts : List (Nat × Operand)} (hx : ∀ x, x ∈ parts.map (·.2) → st'.opd x = st.opd x) (h : Kq P st id t len parts = some u) (hs : Ef st st' u.rd) : Kq P st' id t len parts = some u := by
 unfold Kq at *
 split at h
 ·rename_i z ks h1 h2
  split at h
  ·rename_i rows ids hr
   split at h
   ·rename_i h3 h4
    cases h
    simp only [h1, h2, Zt hx hr hs, h3, h4, O8 hs]
   ·cases h
  ·cases h
 ·cases h
theorem Aaq : ∀ {l : List Operand}, (∀ x, x ∈ l → st'.opd x = st.opd x) → st'.hasVals l = st.hasVals l := by
 intro l
 induction l with
 | nil => intro _; rfl
 | cons x l ih =>
  intro h
  simp only [St.hasVals, St.hasVal]
  rw [h x List.mem_cons_self, ih (fun y hy => h y (List.mem_cons_of_mem _ hy))]
theorem Ad1 (hsel : ∀ cs b, o.op ≠ .select cs b) (hx : ∀ x, x ∈ o.op.operands.toList → st'.opd x = st.opd x) : Ek P st' o = Ek P st o := by
 unfold Ek
 rw [Aaq hx]
 have : execOp st'.opdVal o = execOp st.opdVal o := execOp_congr o hsel (fun x hm => by
  unfold St.opdVal
  rw [hx x (by simpa using hm)])
 rw [this]
theorem Agm {x y : Operand} (hx : st'.opd x = st.opd x) (hy : st'.opd y = st.opd y) (f : IntKind → IntKind → Int → Int → Option Up) : two st' x y f = two st x y f := by
 unfold two
 rw [hx, hy]
theorem Zb {op : BinOp} {tx ty : TypeId} {x y : Operand} (ho : o.op = .binOp op tx x y ty) (hx : st'.opd x = st.opd x) (hy : st'.opd y = st.opd y) : Hz P st' o = Hz P st o := by
 unfold Hz
 rw [ho]
 simp only [hx, hy]
theorem Yf {op : BinOp} {x y : Operand} (he : Hz P st' o = Hz P st o) (hp : Ek P st' o = Ek P st o) (hx : st'.opd x = st.opd x) (hy : st'.opd y = st.opd y) : G4 some P st' o op x y = G4 some P st o op x y := by
 unfold G4
 cases op <;> simp only [Agm hx hy, hp, Qj, hx, hy, he]
theorem Y1 {src dst : TypeId} {x : Operand} (hp : Ek P st' o = Ek P st o) (hx : st'.opd x = st.opd x) (h : H5 some P st o src dst x = some u) (hs : Ef st st' u.rd) : H5 some P st' o src dst x = some u := by
 unfold H5 at *
 rw [hx, hp]
 split at h
 ·exact h
 ·rename_i v hne hv
  split at h
  ·rename_i e hd hsr
   split at h
   ·rename_i he hk
    split at h
    ·rename_i rows ids hrow
     cases h
     rw [Vn hrow hs]
    ·cases h
   ·cases h
  ·exact h
 ·exact h
end Go.Vm
namespace Go.Vm
open Go
variable {P : Program} {st st' : St} {o : Oper} {u : Up} {id : Nat}
theorem Ub {t : TypeId} {x ix : Operand} {i : Nat} {k e : TypeId} {rows : List (List C)} {kc : List ByteArray} (hx : st'.opd x = st.opd x) (hix : st'.opd ix = st.opd ix) (h : Jn P st t x ix = some (i, k, e, rows, kc)) (hi : Aa st'.ob i = Aa st.ob i) : Jn P st' t x ix = some (i, k, e, rows, kc) := by
 obtain ⟨e1, _⟩ := Ps h
 rw [← h]
 unfold Jn
 rw [hx, hix, e1]
 simp only [hi]
theorem Xs {v : SV} {b : BC} {m n : List Nat} (h : Fm P st v = some (b, m, n)) (hs : Ef st st' (m ++ n)) : Fm P st' v = some (b, m, n) := by
 cases v with
 | c x => cases x <;> exact h
 | arr i =>
  simp only [Fm] at h ⊢
  split at h
  ·rename_i hl
   cases h
   rw [hs i (by simp)]
   simp only [hl]
  ·rename_i hl
   cases h
   rw [hs i (by simp)]
   simp only [hl]
  ·cases h
 | sub i lo k =>
  simp only [Fm] at h ⊢
  split at h
  ·rename_i hl
   cases h
   rw [hs i (by simp)]
   simp only [hl]
  ·cases h
 | ptr i off => cases h
 | ept i r off => cases h
 | rop e l off => cases h
theorem Xt : ∀ {l : List SV} {bs : List BC} {m n : List Nat}, Ht P st l = some (bs, m, n) → Ef st st' (m ++ n) → Ht P st' l = some (bs, m, n) := by
 intro l
 induction l with
 | nil => intro bs m n h _; exact h
 | cons v l ih =>
  intro bs m n h hs
  simp only [Ht] at h ⊢
  split at h
  ·rename_i b m1 n1 hv
   split at h
   ·rename_i bs2 m2 n2 hvs
    cases h
    rw [Xs hv (fun i hi => hs i (by
     rcases List.mem_append.1 hi with hi | hi
     ·exact List.mem_append_left _ (List.mem_append_left _ hi)
     ·exact List.mem_append_right _ (List.mem_append_left _ hi))), ih hvs (fun i hi => hs i (by
     rcases List.mem_append.1 hi with hi | hi
     ·exact List.mem_append_left _ (List.mem_append_right _ hi)
     ·exact List.mem_append_right _ (List.mem_append_right _ hi)))]
   ·cases h
  ·cases h
theorem Lk {v : TV} {A : D3} (h : En P st v = some A) (hs : Ef st st' (A.boxes ++ A.moved ++ A.lent)) : En P st' v = some A := by
 have hdat : ∀ {sv : SV}, (match st.toC sv with | some x => some (⟨[.v (.one (.c x.canon))], [], [], sv.ids⟩ : D3) | none => none) = some A → (match st'.toC sv with | some x => some (⟨[.v (.one (.c x.canon))], [], [], sv.ids⟩ : D3) | none => none) = some A := by
  intro sv h
  split at h
  ·rename_i hx
   cases h
   rw [Wk (fun i hi => hs i (by simpa using hi)), hx]
  ·cases h
 cases v with
 | one sv =>
  cases sv with
  | ptr i off =>
   simp only [En] at h ⊢
   split at h
   ·rename_i t l hl
    split at h
    ·rename_i hcs
     cases h
     rw [hs i (by simp), hl]
     simp only
     rw [Xt hcs (fun j hj => hs j (by
      rcases List.mem_append.1 hj with hj | hj
      ·simp [hj]
      ·simp [hj]))]
    ·cases h
   ·cases h
  | c x => simpa [En, St.toC] using h
  | arr i => exact hdat h
  | sub i lo n => exact hdat h
  | ept i r off => simp [En, St.toC] at h
  | rop e l off => exact h
 | agg l =>
  simp only [En] at h ⊢
  split at h
  ·rename_i hcs
   cases h
   rw [N7 (fun i hi => hs i (by simpa using hi)), hcs]
  ·cases h
 | tup l => cases h
 | fn g => exact h
 | fnp g fst i off =>
  simp only [En] at h ⊢
  split at h
  ·rename_i t l hl
   split at h
   ·rename_i cs ks hcs hks
    split at h
    ·rename_i hk
     cases h
     rw [hs i (by simp), hl]
     simp only
     rw [N7 (fun j hj => hs j (by simp [hj])), hcs, hks]
     simp only [hk]
    ·cases h
   ·cases h
  ·cases h
 | fnr g fst e c off => exact h
 | itr i => cases h
theorem Q9 {v : SV} {A : D3} (h : Gv P st v = some A) (hn : ∀ i, v = .arr i → i ∈ A.boxes ++ A.moved ++ A.lent) (hs : Ef st st' (A.boxes ++ A.moved ++ A.lent)) (hv : (∃ i, v = .arr i) ∨ ∃ e, v = .c (.nil e)) : Gv P st' v = some A := by
 have hc : Fm P st' v = Fm P st v := by
  rcases hv with ⟨i, rfl⟩ | ⟨e, rfl⟩
  ·simp only [Fm]
   rw [hs i (hn i rfl)]
  ·rfl
 unfold Gv at h ⊢
 rw [hc]
 split at h
 ·exact h
 ·exact Lk h hs
theorem Xw {i : Nat} {A : D3} (h : Gv P st (.arr i) = some A) : i ∈ A.boxes ++ A.moved ++ A.lent := by
 unfold Gv at h
 split at h
 ·rename_i e rows ms ns hc
  cases h
  simp only [Fm] at hc
  split at hc
  ·cases hc; simp
  ·cases hc
  ·cases hc
 ·simp only [En] at h
  split at h
  ·cases h; simp [SV.ids]
  ·cases h
theorem Xx {f : FuncId} {j : Nat} {v : TV} {A : D3} (h : Il P st f j v = some A) (hs : Ef st st' (A.boxes ++ A.moved ++ A.lent)) : Il P st' f j v = some A := by
 unfold Il at h ⊢
 split at h
 ·split at h
  ·exact Q9 h (fun k hk => by cases hk; exact Xw h) hs (.inl ⟨_, rfl⟩)
  ·exact Lk h hs
 ·split at h
  ·exact Q9 h (fun k hk => by cases hk) hs (.inr ⟨_, rfl⟩)
  ·exact Lk h hs
 ·exact Lk h hs
theorem Rc {f : FuncId} : ∀ {xs : List Operand} {ts : List TypeId} {A : D3} {j : Nat}, (∀ x, x ∈ xs → st'.opd x = st.opd x) → Ge P st f j xs ts = some A → Ef st st' (A.boxes ++ A.moved ++ A.lent) → Ge P st' f j xs ts = some A := by
 intro xs
 induction xs with
 | nil => intro ts A j _ h _; exact h
 | cons x xs ih =>
  intro ts A j hx h hs
  simp only [Ge] at h ⊢
  rw [Iz (hx x List.mem_cons_self)]
  split at h
  ·rename_i tv ht
   split at h
   ·rename_i A1 hA
    split at h
    ·rename_i A2 hA2
     cases h
     have h1 := Xx (st' := st') hA (fun i hi => hs i (by simp at hi ⊢; rcases hi with hi | hi | hi <;> simp [hi]))
     have h2 := ih (fun y hy => hx y (List.mem_cons_of_mem _ hy)) hA2 (fun i hi => hs i (by simp at hi ⊢; rcases hi with hi | hi | hi <;> simp [hi]))
     simp only [ht, h1, h2]
    ·cases h
   ·cases h
  ·cases h
theorem X8 : ∀ {is : List Nat} {ls : List (List BC)} {id : Nat}, Ef st st' is → Ez st' id is ls = Ez st id is ls := by
 intro is
 induction is with
 | nil => intro ls id _; cases ls <;> rfl
 | cons i is ih =>
  intro ls id hs
  cases ls with
  | nil => rfl
  | cons l ls =>
   simp only [Ez]
   rw [hs i List.mem_cons_self]
   have ih' : ∀ n, Ez st' n is ls = Ez st n is ls := fun n => ih (fun j hj => hs j (List.mem_cons_of_mem _ hj))
   simp only [ih']
theorem Abe {A : D3} {R : Res} (hs : Ef st st' A.lent) : E5 P st' A R = E5 P st A R := by
 unfold E5
 split
 ·rfl
 ·rename_i h
  rw [h] at hs
  rw [O8 hs]
theorem W7 {A : D3} {R : Res} (hs : Ef st st' (A.boxes ++ A.moved ++ A.lent)) : Ii P st' id A R = Ii P st id A R := by
 unfold Ii
 rw [Abe (fun i hi => hs i (by simp [hi]))]
 have hb : ∀ n, Ez st' n A.boxes R.refs = Ez st n A.boxes R.refs := fun n => X8 (fun i hi => hs i (by simp [hi]))
 simp only [hb]
theorem W8 {A : D3} {R : Res} (h : Ii P st id A R = some u) : u.rd = A.boxes ++ A.moved ++ A.lent := by
 unfold Ii at h
 split at h
 split at h
 ·split at h
  ·cases h; rfl
  ·cases h
 ·cases h
theorem Abn {A : D3} {R : Res} (hs : Ef st st' A.lent) : He P st' A R = He P st A R := by
 unfold He
 split
 ·rw [Bool.eq_iff_iff, List.all_eq_true, List.all_eq_true]
  constructor
  ·intro h i hi
   rw [← hs i hi]
   exact h i hi
  ·intro h i hi
   rw [hs i hi]
   exact h i hi
 ·rfl
theorem Lq {cl : FuncId → List Arg → Option Res} {f : FuncId} {A : D3} (h : Gh some P (fun f a K => match cl f a with | some R => K R | none => none) st id f A = some u) : u.rd = A.boxes ++ A.moved ++ A.lent := by
 unfold Gh at h
 split at h
 ·simp only at h
  split at h
  ·split at h
   ·exact W8 (Ft h)
   ·cases h
  ·cases h
 ·cases h
theorem Ow {cl : FuncId → List Arg → Option Res} {f : FuncId} {A : D3} (h : Gh some P (fun f a K => match cl f a with | some R => K R | none => none) st id f A = some u) (hs : Ef st st' (A.boxes ++ A.moved ++ A.lent)) : Gh some P (fun f a K => match cl f a with | some R => K R | none => none) st' id f A = some u := by
 unfold Gh at *
 split at h
 ·rename_i hn1 hn2
  simp only at h
  split at h
  ·rename_i Re hRe
   simp only [hRe]
   rw [W7 hs, Abn (fun i hi => hs i (List.mem_append_right _ hi))]
   exact h
  ·cases h
 ·cases h
theorem Oy {cl : FuncId → List Arg → Option Res} {f : FuncId} {xs : List Operand} {ts : List TypeId} (hx : ∀ x, x ∈ xs → st'.opd x = st.opd x) (h : G5 some P (fun f a K => match cl f a with | some R => K R | none => none) st id f xs ts = some u) (hs : Ef st st' u.rd) : G5 some P (fun f a K => match cl f a with | some R => K R | none => none) st' id f xs ts = some u := by
 unfold G5 at *
 split at h
 ·rename_i A hA
  rw [Lq h] at hs
  rw [Rc hx hA hs]
  exact Ow h hs
 ·cases h
theorem R7 {cl : FuncId → List Arg → Option Res} {f : FuncId} {fst : Bool} {tv : TV} {xs : List Operand} {ts : List TypeId} (hx : ∀ x, x ∈ xs → st'.opd x = st.opd x) (h : Hf some P (fun f a K => match cl f a with | some R => K R | none => none) st id f fst tv xs ts = some u) (hs : Ef st st' u.rd) : Hf some P (fun f a K => match cl f a with | some R => K R | none => none) st' id f fst tv xs ts = some u := by
 unfold Hf at *
 split at h
 ·rename_i B hB
  split at h
  ·rename_i A hA
   have key : ∀ X : D3, u.rd = X.boxes ++ X.moved ++ X.lent → (∀ i, (i ∈ B.boxes ∨ i ∈ A.boxes) → i ∈ X.boxes) → (∀ i, (i ∈ B.moved ∨ i ∈ A.moved) → i ∈ X.moved) → (∀ i, (i ∈ B.lent ∨ i ∈ A.lent) → i ∈ X.lent) →
     En P st' tv = some B ∧ Ge P st' f 1000000 xs ts = some A := by
    intro X hrd k1 k2 k3
    rw [hrd] at hs
    refine ⟨Lk hB fun i hi => hs i ?_, Rc hx hA fun i hi => hs i ?_⟩
    ·rcases List.mem_append.1 hi with hi | hi
     ·rcases List.mem_append.1 hi with hi | hi
      ·exact List.mem_append_left _ (List.mem_append_left _ (k1 i (.inl hi)))
      ·exact List.mem_append_left _ (List.mem_append_right _ (k2 i (.inl hi)))
     ·exact List.mem_append_right _ (k3 i (.inl hi))
    ·rcases List.mem_append.1 hi with hi | hi
     ·rcases List.mem_append.1 hi with hi | hi
      ·exact List.mem_append_left _ (List.mem_append_left _ (k1 i (.inr hi)))
      ·exact List.mem_append_left _ (List.mem_append_right _ (k2 i (.inr hi)))
     ·exact List.mem_append_right _ (k3 i (.inr hi))
   cases fst with
   | true =>
    simp only at h ⊢
    obtain ⟨e1, e2⟩ := key (B.app A) (Lq h) (fun i hi => List.mem_append.2 hi) (fun i hi => List.mem_append.2 hi) (fun i hi => List.mem_append.2 hi)
    rw [e1, e2]
    exact Ow h (by rw [← Lq h]; exact hs)
   | false =>
    simp only at h ⊢
    obtain ⟨e1, e2⟩ := key (A.app B) (Lq h) (fun i hi => List.mem_append.2 hi.symm) (fun i hi => List.mem_append.2 hi.symm) (fun i hi => List.mem_append.2 hi.symm)
    rw [e1, e2]
    exact Ow h (by rw [← Lq h]; exact hs)
  ·cases h
 ·cases h
theorem Af4 {cl : FuncId → List Arg → Option Res} (h : step P cl st id o = some u) (hx : ∀ x, x ∈ o.op.operands.toList → st'.opd x = st.opd x) (hs : Ef st st' u.rd) : step P cl st' id o = some u := by
 have hpure : (∀ cs b, o.op ≠ .select cs b) → Ek P st' o = Ek P st o := fun hsel => Ad1 hsel hx
 have hsel : ∀ op : Op, o.op = op → (∀ cs b, op ≠ .select cs b) → ∀ cs b, o.op ≠ .select cs b := fun op ho hn cs b e => hn cs b (ho ▸ e)
 unfold step I6 at *
 split at h
 ·rename_i x ho
  rw [Iz (hx x (by rw [ho]; simp [Op.operands]))]
  exact h
 ·rename_i x ho
  rw [Iz (hx x (by rw [ho]; simp [Op.operands]))]
  exact h
 ·rename_i c x y ho
  rw [hx c (by rw [ho]; simp [Op.operands]), Iz (hx x (by rw [ho]; simp [Op.operands])), Iz (hx y (by rw [ho]; simp [Op.operands]))]
  exact h
 ·rename_i t ho
  exact h
 ·rename_i t x ho
  rw [L9 (hx x (by rw [ho]; simp [Op.operands]))]
  exact h
 ·rename_i t parts ho
  have hf : ∀ l, Gg P t st' l parts.toList = Gg P t st l parts.toList := fun l => Zv fun x hm => hx x (by rw [ho]; simpa [Op.operands] using hm)
  have hfa : ∀ e l, Gf P e st' l parts.toList = Gf P e st l parts.toList := fun e l => Zq fun x hm => hx x (by rw [ho]; simpa [Op.operands] using hm)
  simp only [hf, hfa]
  exact h
 ·rename_i t len parts ho
  rw [Yj (fun x hm => hx x (by rw [ho]; simpa [Op.operands] using hm)) (Ft h) hs]
  rfl
 ·rename_i t x ho
  rw [Abp (hx x (by rw [ho]; simp [Op.operands])) (Ft h) hs]
  rfl
 ·rename_i t x y ho
  rw [Af6 (hx x (by rw [ho]; simp [Op.operands])) (hx y (by rw [ho]; simp [Op.operands])) (Ft h) hs]
  rfl
 ·rename_i t x j ho
  exact Aax (hx x (by rw [ho]; simp [Op.operands])) (hx j (by rw [ho]; simp [Op.operands])) h hs
 ·rename_i t x j ho
  rw [Zo (hx x (by rw [ho]; simp [Op.operands])) (Ft h) hs]
  rfl
 ·rename_i t x j ho
  rw [Zp (hx x (by rw [ho]; simp [Op.operands])) (Ft h)]
  rfl
 ·rename_i t x lo hi ho
  refine Afr (hx x (by rw [ho]; simp [Op.operands])) (fun y hy => hx y (by rw [ho, hy]; simp [Op.operands])) (fun y hy => hx y (by rw [ho, hy]; simp [Op.operands])) h hs
 ·rename_i t x j ho
  exact Aay (hx x (by rw [ho]; simp [Op.operands])) (hx j (by rw [ho]; simp [Op.operands])) h
 ·rename_i t l c ho
  exact Aby (hx l (by rw [ho]; simp [Op.operands])) (hx c (by rw [ho]; simp [Op.operands])) h
 ·rename_i t j ho
  rw [hx t (by rw [ho]; simp [Op.operands])]
  exact h
 ·rename_i x ho
  rw [hx x (by rw [ho]; simp [Op.operands])]
  split at h
  ·rename_i i off he
   split at h
   ·rename_i hl
    cases h
    rw [hs _ List.mem_cons_self]
    simp only [hl]
   ·cases h
  ·exact h
  ·exact h
  ·exact h
  ·exact h
  ·cases h
 ·rename_i op t x y ty ho
  rw [Yf (Zb ho (hx x (by rw [ho]; simp [Op.operands])) (hx y (by rw [ho]; simp [Op.operands]))) (hpure (hsel _ ho (fun _ _ e => by cases e))) (hx x (by rw [ho]; simp [Op.operands])) (hx y (by rw [ho]; simp [Op.operands]))]
  exact h
 ·rename_i c ho
  have hargs : ∀ x, x ∈ c.args.toList → st'.opd x = st.opd x := fun x hm => hx x (by
   rw [ho]
   simp only [Op.operands, Call.operands, Array.toList_append, List.mem_append]
   exact .inr hm)
  unfold In at *
  split at h
  ·rename_i hc
   split at h
   ·rename_i x t hxs hts
    rw [hxs] at hargs
    rw [Abm (hargs x (by simp)) (Ft h) hs]
    rfl
   ·cases h
  ·rename_i hc
   split at h
   ·rename_i s x t t2 hxs hts
    rw [hxs] at hargs
    exact Xp (hargs s (by simp)) (hargs x (by simp)) h hs
   ·cases h
  ·rename_i hc
   rw [hpure (hsel _ ho (fun _ _ e => by cases e))]
   exact h
  ·rename_i hc
   rw [hpure (hsel _ ho (fun _ _ e => by cases e))]
   exact h
  ·rename_i f hc
   exact Oy hargs h hs
  ·rename_i t hc
   have ht : Aa st'.tm t = Aa st.tm t := hx (.tmp t) (by
    rw [ho]
    simp [Op.operands, Call.operands, hc])
   rw [ht]
   split at h
   ·exact Oy hargs h hs
   ·exact R7 hargs h hs
   ·exact R7 hargs h hs
   ·exact Oy hargs h hs
   ·cases h
  ·cases h
 ·rename_i ho
  rw [hpure (hsel _ ho (fun _ _ e => by cases e))]
  exact h
 ·rename_i src dst x ho
  exact Y1 (hpure (hsel _ ho (fun _ _ e => by cases e))) (hx x (by rw [ho]; simp [Op.operands])) h hs
 ·rename_i fn first captured ho
  unfold Ns at *
  split at h
  ·exact h
  ·rename_i g x h1 h2
   rw [hx x (by rw [ho]; simp only [Op.operands, Array.toList_append, List.mem_append, h1]; simp)]
   exact h
  ·rename_i g x h1 h2
   rw [hx x (by rw [ho]; simp only [Op.operands, Array.toList_append, List.mem_append, h2]; simp)]
   exact h
  ·cases h
 ·rename_i t x ho
  unfold L8 at *
  rw [hx x (by rw [ho]; simp [Op.operands])]
  exact h
 ·rename_i x ho
  unfold L7 at *
  rw [hx x (by rw [ho]; simp [Op.operands])]
  split at h
  ·rename_i i hi
   split at h
   ·rename_i s pos hl
    have hri : u.rd = [i] := by
     split at h <;> cases h <;> rfl
    rw [hs i (by rw [hri]; simp), hl]
    exact h
   ·cases h
  ·cases h
 ·exact h
 ·rename_i t x ix ho
  unfold L5 at *
  split at h
  ·rename_i i k e rows kc hm
   have hri : u.rd = [i] := by have := (Nn h).1; cases this; rfl
   rw [Ub (hx x (by rw [ho]; simp [Op.operands])) (hx ix (by rw [ho]; simp [Op.operands])) hm (hs i (by rw [hri]; simp))]
   exact h
  ·cases h
 ·rename_i t m k x ho
  unfold L6 at *
  split at h
  ·rename_i i k' e rows kc hm
   split at h
   ·rename_i b hy
    have hri : u.rd = [i] := by have := (Nn h).1; cases this; rfl
    rw [Ub (hx m (by rw [ho]; simp [Op.operands])) (hx k (by rw [ho]; simp [Op.operands])) hm (hs i (by rw [hri]; simp)), hx x (by rw [ho]; simp [Op.operands])]
    simp only [hy]
    exact h
   ·cases h
  ·cases h
 ·cases h
end Go.Vm
namespace Go.Vm
open Go
variable {P : Program} {W0 W W' : World} {M U U' : Nat → Prop} {st : St} {E E' : Env} {Z Z' : Addr → Prop} {a : Act} {ob ob' : List (Nat × Ob)} {o : Oper} {u : Up} {tv : TV} {id : Nat} {ops : Array Oper}
theorem Agw (R : Rel P W0 M U st E Z a W) {b : Bool} (h : wanted ops st o = some b) : Region.wanted o (yielded ops a.tmps) = b := by
 unfold wanted at h
 unfold Region.wanted
 split at h
 ·rename_i hg
  cases h
  rw [hg]
 ·rename_i j want hg
  rw [hg]
  simp only
  unfold yielded
  split at h
  ·rename_i d hd
   rw [hd]
   simp only [Option.bind_some]
   split at h
   ·rename_i z hl
    obtain ⟨h1, h2⟩ := R.tm d _ hl
    have hsz : d < a.tmps.size := by rw [R.nt]; exact h1
    have hget : a.tmps[d]? = some (a.tmps.getD d undef) := by simp [Array.getD, hsz]
    rw [hget]
    generalize a.tmps.getD d undef = v at h2
    cases h2 with
    | one h2 =>
     cases (show Ae P W Z (.bool z) v from h2)
     cases h
     cases z <;> cases want <;> rfl
   ·rename_i hl
    obtain ⟨h1, h2⟩ := R.tm d _ hl
    have hsz : d < a.tmps.size := by rw [R.nt]; exact h1
    have hget : a.tmps[d]? = some (a.tmps.getD d undef) := by simp [Array.getD, hsz]
    rw [hget]
    generalize a.tmps.getD d undef = v at h2
    cases h2 with
    | tup _ _ =>
     cases h
     cases want <;> rfl
   ·cases h
  ·cases h
structure Fc (W0 : World) (M : Nat → Prop) (n : Nat) (E : Env) (Z : Addr → Prop) (E' : Env) (Z' : Addr → Prop) : Prop where
 zz : ∀ k, Z k → Z' k
 zn : ∀ A, Z' A → Z A ∨ M A.block ∨ W0.heap.size ≤ A.block
 box : ∀ i, i < n → E'.box i = E.box i
theorem Fc.refl {n : Nat} : Fc W0 M n E Z E Z := ⟨fun _ h => h, fun _ h => .inl h, fun _ _ => rfl⟩
theorem Fc.trans {n : Nat} {E2 : Env} {Z2 : Addr → Prop} (h : Fc W0 M n E Z E' Z') (h' : Fc W0 M n E' Z' E2 Z2) : Fc W0 M n E Z E2 Z2 :=
 ⟨fun k hk => h'.zz k (h.zz k hk), fun k hk => by
  rcases h'.zn k hk with h1 | h1
  ·exact h.zn k h1
  ·exact .inr h1, fun i hi => (h'.box i hi).trans (h.box i hi)⟩
def Hp (P : Program) (cl : FuncId → List Arg → Option Res) : Prop := ∀ f args R, cl f args = some R → Ig P f args R
theorem Agn : D0 P W Z U E ob G8 undef := .tup rfl (fun i t u h => by simp at h)
theorem Py {cl : FuncId → List Arg → Option Res} (hcall : Hp P cl) {i n : Nat} (hi : ops[i]? = some o) (R : Rel P W0 M U st E Z a W) (hn : ∀ j, j < n → U j) (hf : ∀ j, id ≤ j → j < id + 128 → ¬ U j) {b : Bool} (hw : wanted ops st o = some b) (hb : b = true → step P cl st id o = some u) (hnb : b = false → u = .val G8)
  {K : Act → World → Prop} {Q : Exit → Act → World → Prop} (hK : ∀ v W' E' Z', Rel P W0 M (Gl U id) (st.up o.dst u) E' Z' (a.put o.dst v) W' → Fc W0 M n E Z E' Z' → K (a.put o.dst v) W') : wpOp P ops Q i K a W := by
 unfold wpOp
 rw [hi]
 simp only
 rw [Agw R hw]
 cases b with
 | true =>
  rw [if_pos rfl]
  exact .inl (Af5 R hf hcall (hb rfl) K Q (fun v W' E' Z' h1 h2 h3 h4 => hK v W' E' Z' h1 ⟨h2, h3, fun i hi => h4 i (hn i hi)⟩))
 | false =>
  rw [if_neg (by simp)]
  rw [hnb rfl] at hK
  exact hK undef W E Z ((R.val o.dst Agn).moreU (fun _ h => .inl h)) Fc.refl
theorem V0 {cl : FuncId → List Arg → Option Res} (hcall : Hp P cl) {Q : Exit → Act → World → Prop} {n : Nat} : ∀ {L : List (Nat × Oper)} {k : Nat} {s s' : St} {ms : List Met} {E : Env} {Z : Addr → Prop} {a : Act} {W : World}, (∀ j p, L[j]? = some p → p.1 = k + j ∧ ops[k + j]? = some p.2) → n ≤ s.base →
  Rel P W0 M (fun j => j < s.base + 128 * k) s E Z a W → Fu P cl ops L s = some (s', ms) → (∀ a' W' E' Z', Rel P W0 M (fun j => j < s.base + 128 * (k + L.length)) s' E' Z' a' W' → Fc W0 M n E Z E' Z' → Q .normal a' W') → s'.base = s.base ∧ wpOps P ops Q (L.map (·.1)) a W := by
 intro L
 induction L with
 | nil =>
  intro k s s' ms E Z a W hL hn R h hQ
  simp only [Fu, Option.some.injEq, Prod.mk.injEq] at h
  obtain ⟨rfl, rfl⟩ := h
  exact ⟨rfl, hQ a W E Z R Fc.refl⟩
 | cons p L ih =>
  intro k s s' ms E Z a W hL hn R h hQ
  obtain ⟨i, o⟩ := p
  obtain ⟨h1, h2⟩ := hL 0 (i, o) rfl
  simp only [Nat.add_zero] at h1 h2
  subst h1
  have hL' : ∀ j p, L[j]? = some p → p.1 = (i + 1) + j ∧ ops[(i + 1) + j]? = some p.2 := fun j p hj => by
   have := hL (j + 1) p (by simpa using hj)
   rw [show i + 1 + j = i + (j + 1) by omega]
   exact this
  have key : ∀ u, (∃ b, wanted ops s o = some b ∧ (b = true → step P cl s (s.base + 128 * i) o = some u) ∧ (b = false → u = .val G8)) → ∀ ms', Fu P cl ops L (s.up o.dst u) = some (s', ms') → s'.base = s.base ∧ wpOps P ops Q (((i, o) :: L).map (·.1)) a W := by
   intro u ⟨b, hw, hb, hnb⟩ ms' hr
   have hbase : s'.base = s.base := by
    have aux : ∀ {L : List (Nat × Oper)} {s s' : St} {ms : List Met}, Fu P cl ops L s = some (s', ms) → s'.base = s.base := by
     intro L
     induction L with
     | nil => intro s s' ms h; simp only [Fu, Option.some.injEq, Prod.mk.injEq] at h; obtain ⟨rfl, _⟩ := h; rfl
     | cons p L ih =>
      intro s s' ms h
      obtain ⟨i, o⟩ := p
      simp only [Fu] at h
      split at h
      ·split at h
       ·split at h
        ·rename_i hr
         cases h
         exact (ih hr).trans rfl
        ·cases h
       ·cases h
      ·split at h
       ·rename_i hr
        cases h
        exact (ih hr).trans rfl
       ·cases h
      ·cases h
    exact (aux hr).trans rfl
   refine ⟨hbase, ?_⟩
   show wpOps P ops Q (i :: L.map (·.1)) a W
   rw [wpOps_cons]
   refine Py hcall h2 R (n := n) (fun j hj => by omega) (fun j h3 h4 => by omega) hw hb hnb (fun v W' E' Z' R' hg => ?_)
   have R2 : Rel P W0 M (fun j => j < (s.up o.dst u).base + 128 * (i + 1)) (s.up o.dst u) E' Z' (a.put o.dst v) W' := R'.moreU (fun j hj => by
    show j < s.base + 128 * (i + 1)
    rcases hj with h | h
    ·have h : j < s.base + 128 * i := h
     omega
    ·omega)
   exact (ih hL' (by exact hn) R2 hr (fun a' W2 E2 Z2 R3 hg2 => hQ a' W2 E2 Z2 (by
    have e : i + 1 + L.length = i + ((i, o) :: L).length := by simp; omega
    rw [e] at R3
    exact R3) (hg.trans hg2))).2
  simp only [Fu] at h
  split at h
  ·rename_i hw
   split at h
   ·rename_i u hu
    split at h
    ·rename_i hr
     cases h
     exact key u ⟨true, hw, ⟨fun _ => hu, fun e => (by cases e)⟩⟩ _ hr
    ·cases h
   ·cases h
  ·rename_i hw
   split at h
   ·rename_i hr
    cases h
    exact key _ ⟨false, hw, ⟨fun e => (by cases e), fun _ => rfl⟩⟩ _ hr
   ·cases h
  ·cases h
end Go.Vm
namespace Go.Vm
open Go
variable {P : Program} {W0 W W' : World} {M U U' : Nat → Prop} {st : St} {E E' : Env} {Z Z' : Addr → Prop} {a : Act} {ob ob' : List (Nat × Ob)} {o o' : Oper} {u u' : Up} {tv : TV} {id : Nat} {ops : Array Oper}
structure Fd (s s' : St) : Prop where
 tm : ∀ t, Aa s.tm t = Aa s'.tm t
 ob : ∀ i, Aa s.ob i = Aa s'.ob i
 base : s.base = s'.base
 nt : s.nt = s'.nt
theorem Fd.refl (s : St) : Fd s s := ⟨fun _ => rfl, fun _ => rfl, rfl, rfl⟩
theorem Fd.symm {s s' : St} (h : Fd s s') : Fd s' s := ⟨fun t => (h.tm t).symm, fun t => (h.ob t).symm, h.base.symm, h.nt.symm⟩
theorem Fd.trans {s s' s2 : St} (h : Fd s s') (h' : Fd s' s2) : Fd s s2 := ⟨fun t => (h.tm t).trans (h'.tm t), fun t => (h.ob t).trans (h'.ob t), h.base.trans h'.base, h.nt.trans h'.nt⟩
theorem Rel.lookEq (R : Rel P W0 M U st E Z a W) {s : St} (h : Fd s st) : Rel P W0 M U s E Z a W := by
 have R2 := R.congr (st := st) (ob := st.ob) (ob' := s.ob) (fun i => h.ob i)
 exact ⟨R2.nt.trans h.nt.symm, R2.defers, fun t tv ht => by
  have := R2.tm t tv (by rw [← h.tm]; exact ht)
  rw [h.nt]
  exact this, R2.ob, R2.ids, R2.inj, R2.free, R2.frz, R2.zlt, R2.own, R2.frame, R2.size, R2.os, R2.tape, R2.output, R2.hood⟩
theorem Ic (s : St) (d : Option Nat) (u : Up) (t : Nat) : Aa (s.up d u).tm t = if d = some t ∧ t < s.nt then some u.tv else Aa s.tm t := by
 unfold St.up
 cases d with
 | none => simp
 | some d =>
  simp only
  by_cases h : d < s.nt
  ·have hb : Nat.blt d s.nt = true := by simpa [Nat.blt_eq] using h
   rw [hb]
   simp only [D8]
   by_cases ht : t = d
   ·subst ht
    rw [if_pos rfl, if_pos ⟨rfl, h⟩]
   ·rw [if_neg ht, if_neg (fun e => ht (Option.some.inj e.1).symm)]
  ·have hb : Nat.blt d s.nt = false := by
    cases hh : Nat.blt d s.nt with
    | false => rfl
    | true => exact absurd (by simpa [Nat.blt_eq] using hh) h
   rw [hb]
   simp only
   rw [if_neg]
   rintro ⟨h1, h2⟩
   cases h1
   exact h h2
theorem Ly : ∀ {obs : List (Nat × Option Ob)} {ob : List (Nat × Ob)} {k : Nat}, k ∉ obs.map (·.1) → Aa (Am ob obs) k = Aa ob k := by
 intro obs
 induction obs with
 | nil => intro ob k _; rfl
 | cons p obs ih =>
  intro ob k h
  obtain ⟨i, x⟩ := p
  simp only [List.map_cons, List.mem_cons, not_or] at h
  cases x with
  | none =>
   show Aa (Am (Vm.del ob i) obs) k = _
   rw [ih h.2, Gr, if_neg h.1]
  | some x =>
   show Aa (Am (put ob i x) obs) k = _
   rw [ih h.2, D8, if_neg h.1]
theorem Fd.up {s s' : St} (h : Fd s s') (d : Option Nat) (u : Up) : Fd (s.up d u) (s'.up d u) :=
 ⟨fun t => by rw [Ic, Ic, h.tm, h.nt], fun i => Jm (.inl (h.ob i)), h.base, h.nt⟩
def Mt (o : Oper) (u : Up) (o' : Oper) (u' : Up) : Prop := (∀ t, o.dst = some t → o'.dst ≠ some t) ∧ ∀ i, i ∈ u.ob.map (·.1) → i ∉ u'.ob.map (·.1)
theorem Ago (s : St) (h : Mt o u o' u') : Fd ((s.up o.dst u).up o'.dst u') ((s.up o'.dst u').up o.dst u) := by
 obtain ⟨h1, h2⟩ := h
 refine ⟨fun t => ?_, fun i => ?_, rfl, rfl⟩
 ·rw [Ic, Ic, Ic, Ic]
  show (if o'.dst = some t ∧ t < s.nt then _ else if o.dst = some t ∧ t < s.nt then _ else _) = (if o.dst = some t ∧ t < s.nt then _ else if o'.dst = some t ∧ t < s.nt then _ else _)
  by_cases e1 : o'.dst = some t ∧ t < s.nt
  ·rw [if_pos e1, if_neg (fun e => h1 t e.1 e1.1), if_pos e1]
  ·rw [if_neg e1]
   by_cases e2 : o.dst = some t ∧ t < s.nt
   ·rw [if_pos e2, if_pos e2]
   ·rw [if_neg e2, if_neg e2, if_neg e1]
 ·show Aa (Am (Am s.ob u.ob) u'.ob) i = Aa (Am (Am s.ob u'.ob) u.ob) i
  by_cases e1 : i ∈ u.ob.map (·.1)
  ·rw [Ly (h2 i e1)]
   exact Jm (.inr e1)
  ·rw [Ly (ob := Am s.ob u'.ob) e1]
   exact Jm (.inl (Ly e1))
def Dz (k : Nat) (T : List (Oper × Up)) (L : Nat → Bool) (s : St) : St := match T with
 | [] => s
 | (o, u) :: T => Dz (k + 1) T L (match L k with
  | true => s.up o.dst u
  | false => s)
theorem Afx : ∀ {T : List (Oper × Up)} {k : Nat} {L : Nat → Bool} {s s' : St}, Fd s s' → Fd (Dz k T L s) (Dz k T L s') := by
 intro T
 induction T with
 | nil => intro k L s s' h; exact h
 | cons p T ih =>
  intro k L s s' h
  obtain ⟨o, u⟩ := p
  simp only [Dz]
  refine ih ?_
  cases L k with
  | true => exact h.up _ _
  | false => exact h
theorem V6 : ∀ {T : List (Oper × Up)} {k : Nat} {L L' : Nat → Bool} {s : St}, (∀ j, k ≤ j → L j = L' j) → Dz k T L s = Dz k T L' s := by
 intro T
 induction T with
 | nil => intro k L L' s h; rfl
 | cons p T ih =>
  intro k L L' s h
  obtain ⟨o, u⟩ := p
  simp only [Dz]
  rw [h k (Nat.le_refl _)]
  exact ih fun j hj => h j (by omega)
theorem V7 : ∀ {T : List (Oper × Up)} {k : Nat} {L : Nat → Bool} {s : St}, (∀ j, k ≤ j → L j = false) → Dz k T L s = s := by
 intro T
 induction T with
 | nil => intro k L s h; rfl
 | cons p T ih =>
  intro k L s h
  obtain ⟨o, u⟩ := p
  simp only [Dz]
  rw [h k (Nat.le_refl _)]
  exact ih fun j hj => h j (by omega)
theorem V5 : ∀ {T : List (Oper × Up)} {k : Nat} {L : Nat → Bool} {s : St}, (Dz k T L s).base = s.base ∧ (Dz k T L s).nt = s.nt := by
 intro T
 induction T with
 | nil => intro k L s; exact ⟨rfl, rfl⟩
 | cons p T ih =>
  intro k L s
  obtain ⟨o, u⟩ := p
  simp only [Dz]
  obtain ⟨h1, h2⟩ := ih (k := k + 1) (L := L) (s := match L k with | true => s.up o.dst u | false => s)
  rw [h1, h2]
  cases L k <;> exact ⟨rfl, rfl⟩
theorem Af0 : ∀ {T : List (Oper × Up)} {k : Nat} {L L' : Nat → Bool} {s s' : St} {t : Nat}, (∀ j o u, T[j]? = some (o, u) → L (k + j) ≠ L' (k + j) → o.dst ≠ some t) → Aa s.tm t = Aa s'.tm t → s.nt = s'.nt → Aa (Dz k T L s).tm t = Aa (Dz k T L' s').tm t := by
 intro T
 induction T with
 | nil => intro k L L' s s' t _ h _; exact h
 | cons p T ih =>
  intro k L L' s s' t h hs hn
  obtain ⟨o, u⟩ := p
  simp only [Dz]
  have h0 := h 0 o u rfl
  simp only [Nat.add_zero] at h0
  have hupn : o.dst ≠ some t → ∀ s : St, Aa (s.up o.dst u).tm t = Aa s.tm t := fun hne s => by rw [Ic, if_neg (fun e => hne e.1)]
  refine ih (fun j o' u' hj => ?_) ?_ ?_
  ·have := h (j + 1) o' u' (by simpa using hj)
   rw [show k + 1 + j = k + (j + 1) by omega]
   exact this
  ·cases h1 : L k <;> cases h2 : L' k <;> simp only
   ·exact hs
   ·rw [hupn (h0 (by rw [h1, h2]; simp))]; exact hs
   ·rw [hupn (h0 (by rw [h1, h2]; simp))]; exact hs
   ·rw [Ic, Ic, hs, hn]
  ·cases h1 : L k <;> cases h2 : L' k <;> exact hn
theorem Afz : ∀ {T : List (Oper × Up)} {k : Nat} {L L' : Nat → Bool} {s s' : St} {i : Nat}, (∀ j o u, T[j]? = some (o, u) → L (k + j) ≠ L' (k + j) → i ∉ u.ob.map (·.1)) → Aa s.ob i = Aa s'.ob i → Aa (Dz k T L s).ob i = Aa (Dz k T L' s').ob i := by
 intro T
 induction T with
 | nil => intro k L L' s s' t _ h; exact h
 | cons p T ih =>
  intro k L L' s s' i h hs
  obtain ⟨o, u⟩ := p
  simp only [Dz]
  have h0 := h 0 o u rfl
  simp only [Nat.add_zero] at h0
  refine ih (fun j o' u' hj => ?_) ?_
  ·have := h (j + 1) o' u' (by simpa using hj)
   rw [show k + 1 + j = k + (j + 1) by omega]
   exact this
  ·cases h1 : L k <;> cases h2 : L' k <;> simp only
   ·exact hs
   ·show Aa s.ob i = Aa (Am s'.ob u.ob) i
    rw [Ly (h0 (by rw [h1, h2]; simp))]; exact hs
   ·show Aa (Am s.ob u.ob) i = Aa s'.ob i
    rw [Ly (h0 (by rw [h1, h2]; simp))]; exact hs
   ·exact Jm (.inl hs)
theorem Af1 : ∀ {T : List (Oper × Up)} {k : Nat} {L : Nat → Bool} {s : St}, (∀ j o' u', T[j]? = some (o', u') → L (k + j) = true → Mt o u o' u') → Fd (Dz k T L (s.up o.dst u)) ((Dz k T L s).up o.dst u) := by
 intro T
 induction T with
 | nil => intro k L s _; exact Fd.refl _
 | cons p T ih =>
  intro k L s h
  obtain ⟨o', u'⟩ := p
  simp only [Dz]
  have h' : ∀ j o2 u2, T[j]? = some (o2, u2) → L (k + 1 + j) = true → Mt o u o2 u2 := fun j o2 u2 hj hL => h (j + 1) o2 u2 (by simpa using hj) (by rw [show k + (j + 1) = k + 1 + j by omega]; exact hL)
  cases h1 : L k with
  | true => exact (Afx (Ago s (h 0 o' u' rfl (by simpa using h1)))).trans (ih h')
  | false => exact ih h'
theorem Afw : ∀ {T : List (Oper × Up)} {k i : Nat} {L L' : Nat → Bool} {s : St}, T[i]? = some (o, u) → L (k + i) = false → L' (k + i) = true → (∀ j, j ≠ k + i → L' j = L j) → (∀ j o' u', T[j]? = some (o', u') → i < j → L (k + j) = true → Mt o u o' u') → Fd (Dz k T L' s) ((Dz k T L s).up o.dst u) := by
 intro T
 induction T with
 | nil => intro k i L L' s h; simp at h
 | cons p T ih =>
  intro k i L L' s h hL hL' hne hap
  obtain ⟨o2, u2⟩ := p
  simp only [Dz]
  cases i with
  | zero =>
   simp only [List.getElem?_cons_zero, Option.some.injEq, Prod.mk.injEq] at h
   obtain ⟨rfl, rfl⟩ := h
   simp only [Nat.add_zero] at hL hL'
   rw [hL, hL']
   simp only
   rw [V6 (L := L') (L' := L) (fun j hj => hne j (by omega))]
   exact Af1 fun j o' u' hj hLj => hap (j + 1) o' u' (by simpa using hj) (by omega) (by rw [show k + (j + 1) = k + 1 + j by omega]; exact hLj)
  | succ i =>
   simp only [List.getElem?_cons_succ] at h
   rw [hne k (by omega)]
   exact ih h (by rw [show k + 1 + i = k + (i + 1) by omega]; exact hL) (by rw [show k + 1 + i = k + (i + 1) by omega]; exact hL') (fun j hj => hne j (by omega)) (fun j o' u' hj hij hLj => hap (j + 1) o' u' (by simpa using hj) (by omega) (by rw [show k + (j + 1) = k + 1 + j by omega]; exact hLj))
end Go.Vm
namespace Go.Vm
open Go
variable {P : Program} {W0 W W' : World} {M U U' : Nat → Prop} {st : St} {E E' : Env} {Z Z' : Addr → Prop} {a : Act} {ob ob' : List (Nat × Ob)} {o o' : Oper} {u u' : Up} {tv : TV} {id : Nat} {ops : Array Oper} {cl : FuncId → List Arg → Option Res}
def Did (P : Program) (cl : FuncId → List Arg → Option Res) (ops : Array Oper) (s : St) (i : Nat) (o : Oper) (u : Up) : Prop := ∃ b, wanted ops s o = some b ∧ (b = true → step P cl s (s.base + 128 * i) o = some u) ∧ (b = false → u = .val G8)
inductive Tr (P : Program) (cl : FuncId → List Arg → Option Res) (ops : Array Oper) : Nat → List Oper → St → List (Oper × Up) → St → List Met → Prop where
 | nil {k : Nat} {s : St} : Tr P cl ops k [] s [] s []
 | cons {k : Nat} {o : Oper} {u : Up} {l : List Oper} {s s' : St} {T : List (Oper × Up)} {ms : List Met} : Did P cl ops s k o u → Tr P cl ops (k + 1) l (s.up o.dst u) T s' ms → Tr P cl ops k (o :: l) s ((o, u) :: T) s' (Eq ops k o u :: ms)
theorem Agi : ∀ {l : List Oper} {k : Nat} {s s' : St} {ms : List Met}, Fu P cl ops ((List.range' k l.length).zip l) s = some (s', ms) → ∃ T, Tr P cl ops k l s T s' ms := by
 intro l
 induction l with
 | nil =>
  intro k s s' ms h
  simp only [List.length_nil, List.range'_zero, List.zip_nil_left, Fu, Option.some.injEq, Prod.mk.injEq] at h
  obtain ⟨rfl, rfl⟩ := h
  exact ⟨[], .nil⟩
 | cons o l ih =>
  intro k s s' ms h
  simp only [List.length_cons, List.range'_succ, List.zip_cons_cons, Fu] at h
  split at h
  ·rename_i hw
   split at h
   ·rename_i u hu
    split at h
    ·rename_i hr
     cases h
     obtain ⟨T, hT⟩ := ih hr
     exact ⟨_, .cons ⟨true, hw, fun _ => hu, fun e => (by cases e)⟩ hT⟩
    ·cases h
   ·cases h
  ·rename_i hw
   split at h
   ·rename_i hr
    cases h
    obtain ⟨T, hT⟩ := ih hr
    exact ⟨_, .cons ⟨false, hw, fun e => (by cases e), fun _ => rfl⟩ hT⟩
   ·cases h
  ·cases h
theorem Tr.last {k : Nat} {l : List Oper} {s s' : St} {T : List (Oper × Up)} {ms : List Met} (h : Tr P cl ops k l s T s' ms) : T.length = l.length ∧ ms.length = l.length ∧ s' = Dz k T (fun _ => true) s := by
 induction h with
 | nil => exact ⟨rfl, rfl, rfl⟩
 | cons _ _ ih => exact ⟨by simp [ih.1], by simp [ih.2.1], ih.2.2⟩
theorem Tr.get {k : Nat} {l : List Oper} {s s' : St} {T : List (Oper × Up)} {ms : List Met} (h : Tr P cl ops k l s T s' ms) : ∀ i o, l[i]? = some o → ∃ u, T[i]? = some (o, u) ∧ ms[i]? = some (Eq ops (k + i) o u) ∧ Did P cl ops (Dz k T (fun j => decide (j < k + i)) s) (k + i) o u := by
 induction h with
 | nil => intro i o h; simp at h
 | @cons k o u l s s' T ms h1 h2 ih =>
  intro i o' hi
  cases i with
  | zero =>
   simp only [List.getElem?_cons_zero, Option.some.injEq] at hi
   subst hi
   refine ⟨u, rfl, rfl, ?_⟩
   have e : Dz k ((o, u) :: T) (fun j => decide (j < k + 0)) s = s := V7 fun j hj => by
    simp
    omega
   rw [e]
   exact h1
  | succ i =>
   simp only [List.getElem?_cons_succ] at hi
   obtain ⟨u', h3, h4, h5⟩ := ih i o' hi
   refine ⟨u', by simpa using h3, by rw [show k + (i + 1) = k + 1 + i by omega]; simpa using h4, ?_⟩
   have e : Dz k ((o, u) :: T) (fun j => decide (j < k + (i + 1))) s = Dz (k + 1) T (fun j => decide (j < k + 1 + i)) (s.up o.dst u) := by
    simp only [Dz]
    have hd : decide (k < k + (i + 1)) = true := by simp
    rw [hd]
    exact V6 fun j _ => by rw [show k + (i + 1) = k + 1 + i by omega]
   rw [e, show k + (i + 1) = k + 1 + i by omega]
   exact h5
theorem Q0 {before : Array Nat} : ∀ {ms : List Met} {j i : Nat} {m m' : Met}, Lh before ms = true → ms[j]? = some m → ms[i]? = some m' → j < i → (before.getD m'.i 0).testBit m.i = true ∨ m.apart m' = true := by
 intro ms
 induction ms with
 | nil => intro j i m m' _ h; simp at h
 | cons x ms ih =>
  intro j i m m' h hj hi hlt
  simp only [Lh, Bool.and_eq_true] at h
  cases i with
  | zero => omega
  | succ i =>
   simp only [List.getElem?_cons_succ] at hi
   cases j with
   | zero =>
    simp only [List.getElem?_cons_zero, Option.some.injEq] at hj
    subst hj
    have := List.all_eq_true.1 h.1 m' (List.mem_of_getElem? hi)
    simpa using this
   | succ j => exact ih h.2 (by simpa using hj) hi (by omega)
def Qs (ops : Array Oper) (L : Nat → Bool) : Prop := ∀ i o, L i = true → ops[i]? = some o → ∀ e, e ∈ o.after → Region.binds .any e = true → L e.on = true
theorem Aab {acc : Array Nat} {m : Nat} : ∀ {l : List Edge} {s : Nat}, (l.foldl (fun s e => if Region.binds .any e then s ||| 2 ^ e.on ||| acc.getD e.on 0 else s) s).testBit m = true → s.testBit m = true ∨ ∃ e, e ∈ l ∧ Region.binds .any e = true ∧ (m = e.on ∨ (acc.getD e.on 0).testBit m = true) := by
 intro l
 induction l with
 | nil => intro s h; exact .inl h
 | cons e l ih =>
  intro s h
  rw [List.foldl_cons] at h
  rcases ih h with h1 | ⟨e', h1, h2, h3⟩
  ·split at h1
   ·rename_i hb
    rw [Nat.testBit_or, Nat.testBit_or, Bool.or_eq_true, Bool.or_eq_true] at h1
    rcases h1 with (h1 | h1) | h1
    ·exact .inl h1
    ·refine .inr ⟨e, List.mem_cons_self, hb, .inl ?_⟩
     rw [Nat.testBit_two_pow] at h1
     exact (of_decide_eq_true h1).symm
    ·exact .inr ⟨e, List.mem_cons_self, hb, .inr h1⟩
   ·exact .inl h1
  ·exact .inr ⟨e', List.mem_cons_of_mem _ h1, h2, h3⟩
theorem Rm (ops : Array Oper) : ∀ i m, ((Region.before ops).getD i 0).testBit m = true → ∃ o, ops[i]? = some o ∧ ∃ e, e ∈ o.after ∧ Region.binds .any e = true ∧ (m = e.on ∨ (e.on < i ∧ ((Region.before ops).getD e.on 0).testBit m = true)) := by
 have key : ∀ (l : List Oper) (acc : Array Nat) (done : List Oper), acc.size = done.length →
   (∀ i m, (acc.getD i 0).testBit m = true → ∃ o, done[i]? = some o ∧ ∃ e, e ∈ o.after ∧ Region.binds .any e = true ∧ (m = e.on ∨ (e.on < i ∧ (acc.getD e.on 0).testBit m = true))) →
   ∀ i m, ((l.foldl (fun acc o => acc.push (o.after.foldl (fun s e => if Region.binds .any e then s ||| 2 ^ e.on ||| acc.getD e.on 0 else s) 0)) acc).getD i 0).testBit m = true → ∃ o, (done ++ l)[i]? = some o ∧ ∃ e, e ∈ o.after ∧ Region.binds .any e = true ∧ (m = e.on ∨ (e.on < i ∧ ((l.foldl (fun acc o => acc.push (o.after.foldl (fun s e => if Region.binds .any e then s ||| 2 ^ e.on ||| acc.getD e.on 0 else s) 0)) acc).getD e.on 0).testBit m = true)) := by
  intro l
  induction l with
  | nil => intro acc done _ h i m hi; rw [List.append_nil]; exact h i m hi
  | cons o l ih =>
   intro acc done hsz h i m hi
   rw [List.foldl_cons] at hi ⊢
   have := ih (acc.push (o.after.foldl (fun s e => if Region.binds .any e then s ||| 2 ^ e.on ||| acc.getD e.on 0 else s) 0)) (done ++ [o]) (by simp [hsz]) (fun i m hi => ?_) i m hi
   ·rw [List.append_assoc] at this
    exact this
   ·have hpush : ∀ j, j < acc.size → (acc.push (o.after.foldl (fun s e => if Region.binds .any e then s ||| 2 ^ e.on ||| acc.getD e.on 0 else s) 0)).getD j 0 = acc.getD j 0 := fun j hj => by
     rw [Array.getD_eq_getD_getElem?, Array.getD_eq_getD_getElem?, Array.getElem?_push, if_neg (by omega)]
    rcases Nat.lt_trichotomy i acc.size with hlt | heq | hgt
    ·rw [hpush i hlt] at hi
     obtain ⟨o', h1, e, h2, h3, h4⟩ := h i m hi
     refine ⟨o', by rw [List.getElem?_append_left (by omega)]; exact h1, e, h2, h3, ?_⟩
     rcases h4 with h4 | ⟨h4, h5⟩
     ·exact .inl h4
     ·exact .inr ⟨h4, by rw [hpush _ (by omega)]; exact h5⟩
    ·subst heq
     rw [Array.getD_eq_getD_getElem?, Array.getElem?_push, if_pos rfl] at hi
     simp only [Option.getD_some] at hi
     rw [← Array.foldl_toList] at hi
     rcases Aab hi with h1 | ⟨e, h1, h2, h3⟩
     ·simp at h1
     ·refine ⟨o, by rw [hsz]; simp, e, by simpa using h1, h2, ?_⟩
      rcases h3 with h3 | h3
      ·exact .inl h3
      ·right
       have hlt : e.on < acc.size := by
        rcases Nat.lt_or_ge e.on acc.size with h | h
        ·exact h
        ·rw [Array.getD_eq_getD_getElem?, Array.getElem?_eq_none h] at h3
         simp at h3
       exact ⟨hlt, by rw [hpush _ hlt]; exact h3⟩
    ·rw [Array.getD_eq_getD_getElem?, Array.getElem?_eq_none (by simp; omega)] at hi
     simp at hi
 intro i m h
 have h0 := key ops.toList #[] [] rfl (fun i m h => by simp at h) i m
 unfold Region.before at h ⊢
 rw [← Array.foldl_toList] at h ⊢
 obtain ⟨o, h1, h2⟩ := h0 h
 exact ⟨o, by simpa using h1, h2⟩
theorem Ro {L : Nat → Bool} (hc : Qs ops L) : ∀ (n i m : Nat), i ≤ n → ((Region.before ops).getD i 0).testBit m = true → (∀ o, ops[i]? = some o → ∀ e, e ∈ o.after → Region.binds .any e = true → L e.on = true) → L m = true := by
 intro n
 induction n with
 | zero =>
  intro i m hi h hr
  obtain ⟨o, h1, e, h2, h3, h4⟩ := Rm ops i m h
  rcases h4 with rfl | ⟨h4, _⟩
  ·exact hr o h1 e h2 h3
  ·omega
 | succ n ih =>
  intro i m hi h hr
  obtain ⟨o, h1, e, h2, h3, h4⟩ := Rm ops i m h
  have hl := hr o h1 e h2 h3
  rcases h4 with rfl | ⟨h4, h5⟩
  ·exact hl
  ·exact ih e.on m (by omega) h5 (fun o' ho e' he hb => hc e.on o' hl ho e' he hb)
end Go.Vm
namespace Go.Vm
open Go
variable {P : Program} {W0 W W' : World} {M U U' : Nat → Prop} {st : St} {E E' : Env} {Z Z' : Addr → Prop} {a : Act} {ob ob' : List (Nat × Ob)} {o o' : Oper} {u u' : Up} {tv : TV} {id : Nat} {ops : Array Oper} {cl : FuncId → List Arg → Option Res}
theorem Afy : ∀ {T : List (Oper × Up)} {k : Nat} {L L' : Nat → Bool} {s : St}, (∀ j, k ≤ j → j < k + T.length → L j = L' j) → Dz k T L s = Dz k T L' s := by
 intro T
 induction T with
 | nil => intro k L L' s h; rfl
 | cons p T ih =>
  intro k L L' s h
  obtain ⟨o, u⟩ := p
  simp only [Dz]
  rw [h k (Nat.le_refl _) (by simp)]
  exact ih fun j hj hlt => h j (by omega) (by simp only [List.length_cons]; omega)
theorem Yd : ∀ {l : List Oper} {k : Nat}, J7 k l = true → ∀ i o, l[i]? = some o → ∀ e, e ∈ o.after → Region.binds .any e = true → e.on < k + i := by
 intro l
 induction l with
 | nil => intro k _ i o h; simp at h
 | cons x l ih =>
  intro k h i o hi e he hbd
  simp only [J7, Bool.and_eq_true] at h
  cases i with
  | zero =>
   simp only [List.getElem?_cons_zero, Option.some.injEq] at hi
   subst hi
   have := List.all_eq_true.1 h.1 e (by simpa using he)
   rw [hbd] at this
   simpa [Nat.blt_eq] using this
  | succ i =>
   have := ih h.2 i o (by simpa using hi) e he hbd
   omega
theorem Pb (l : Array Bool) (i j : Nat) (hi : i < l.size) : (l.setIfInBounds i true).getD j false = if j = i then true else l.getD j false := by
 rw [Array.getD_eq_getD_getElem?, Array.getD_eq_getD_getElem?, Array.getElem?_setIfInBounds]
 by_cases h : i = j
 ·subst h
  simp [hi]
 ·rw [if_neg h, if_neg (fun e => h e.symm)]
theorem Xd {listed : Array Bool} (hs : listed.size = ops.size) (hb : J7 0 ops.toList = true) (h : Region.ready .any ops listed = []) : ∀ i, i < ops.size → listed.getD i false = true := by
 intro i
 induction i using Nat.strongRecOn with
 | _ i ih =>
  intro hi
  cases hl : listed.getD i false with
  | true => rfl
  | false =>
   exfalso
   have hm : i ∈ Region.ready .any ops listed := by
    refine mem_ready.2 ⟨?_, ops[i], by simp [hi], fun e he hbd => ?_⟩
    ·rw [Array.getD_eq_getD_getElem?] at hl ⊢
     have : listed[i]? = some listed[i] := by simp [hs, hi]
     rw [this] at hl ⊢
     exact hl
    ·have := Yd hb i ops[i] (by simp [hi]) e he hbd
     exact ih e.on (by omega) (by omega)
   rw [h] at hm
   cases hm
theorem Agv {s s' : St} (h : ∀ t, t ∈ Pe ops o → Aa s'.tm t = Aa s.tm t) : wanted ops s' o = wanted ops s o := by
 unfold wanted Pe at *
 split
 ·rfl
 ·rename_i j want hg
  rw [hg] at h
  simp only at h
  split
  ·rename_i d hd
   rw [hd] at h
   rw [h d (by simp)]
  ·rfl
theorem Adg {s s' : St} : ∀ {xs : List Operand}, (∀ t, t ∈ Lc xs → Aa s'.tm t = Aa s.tm t) → ∀ x, x ∈ xs → s'.opd x = s.opd x := by
 intro xs
 induction xs with
 | nil => intro _ x h; cases h
 | cons y xs ih =>
  intro h x hx
  rcases List.mem_cons.1 hx with rfl | hx
  ·cases x with
   | tmp t => exact h t (by simp [Lc])
   | const v => rfl
   | global g => rfl
   | func f => rfl
  ·refine ih (fun t ht => h t ?_) x hx
   cases y <;> simp [Lc, ht]
theorem On {a b : Met} (h : a.apart b = true) : (∀ t, t ∈ a.wt → t ∉ b.rt ∧ t ∉ b.wt) ∧ (∀ t, t ∈ a.rt → t ∉ b.wt) ∧ (∀ t, t ∈ a.wo → t ∉ b.ro ∧ t ∉ b.wo) ∧ (∀ t, t ∈ a.ro → t ∉ b.wo) := by
 unfold Met.apart at h
 simp only [Bool.and_eq_true] at h
 obtain ⟨⟨⟨h1, h2⟩, h3⟩, h4⟩ := h
 refine ⟨fun t ht => ?_, fun t ht => Lj h2 t ht, fun t ht => ?_, fun t ht => Lj h4 t ht⟩
 ·have := Lj h1 t ht
  simpa using this
 ·have := Lj h3 t ht
  simpa using this
def unl (l : Array Bool) (n : Nat) : Nat := ((List.range n).filter fun i => !(l.getD i false)).length
theorem Wn {l : Array Bool} {i n : Nat} (hi : i < n) (hs : i < l.size) (hl : l.getD i false = false) : unl (l.setIfInBounds i true) n < unl l n := by
 have key : ∀ (xs : List Nat), ((xs.filter fun j => !((l.setIfInBounds i true).getD j false)).length ≤ (xs.filter fun j => !(l.getD j false)).length) ∧ (i ∈ xs → (xs.filter fun j => !((l.setIfInBounds i true).getD j false)).length < (xs.filter fun j => !(l.getD j false)).length) := by
  intro xs
  induction xs with
  | nil => exact ⟨Nat.le_refl _, fun h => by cases h⟩
  | cons x xs ih =>
   rw [List.filter_cons, List.filter_cons, Pb l i x hs]
   by_cases hx : x = i
   ·subst hx
    rw [if_pos rfl, hl]
    simp only [Bool.not_true, Bool.not_false, if_true]
    rw [if_neg (by simp)]
    simp only [List.length_cons]
    exact ⟨by omega, fun _ => by omega⟩
   ·rw [if_neg hx]
    cases hxl : l.getD x false with
    | true =>
     simp only [Bool.not_true, Bool.false_eq_true, if_false]
     exact ⟨ih.1, fun h => ih.2 (by
      rcases List.mem_cons.1 h with h | h
      ·exact absurd h.symm hx
      ·exact h)⟩
    | false =>
     simp only [Bool.not_false, if_true, List.length_cons]
     exact ⟨by omega, fun h => by
      rcases List.mem_cons.1 h with h | h
      ·exact absurd h.symm hx
      ·have := ih.2 h
       omega⟩
 exact (key (List.range n)).2 (List.mem_range.2 hi)
def UL (b : Nat) (L : Nat → Bool) : Nat → Prop := fun j => j < b ∨ ∃ k, L k = true ∧ b + 128 * k ≤ j ∧ j < b + 128 * k + 128
theorem Xo (hcall : Hp P cl) {Q : Exit → Act → World → Prop} {n : Nat} {s0 s' : St} {T : List (Oper × Up)} {ms : List Met} {E0 : Env} {Z0 : Addr → Prop} (hT : Tr P cl ops 0 ops.toList s0 T s' ms) (hap : Lh (Region.before ops) ms = true) (hbw : J7 0 ops.toList = true) (hn : n ≤ s0.base)
  (hQ : ∀ a' W' E' Z', Rel P W0 M (fun j => j < s0.base + 128 * ops.size) s' E' Z' a' W' → Fc W0 M n E0 Z0 E' Z' → Q .normal a' W') :
  ∀ (fuel : Nat) (listed : Array Bool) (a : Act) (W : World) (E : Env) (Z : Addr → Prop), listed.size = ops.size → Qs ops (fun j => listed.getD j false) → unl listed ops.size ≤ fuel → Rel P W0 M (UL s0.base fun j => listed.getD j false) (Dz 0 T (fun j => listed.getD j false) s0) E Z a W → Fc W0 M n E0 Z0 E Z → wpAny P .any ops Q fuel listed a W := by
 obtain ⟨hlen, hlen2, hlast⟩ := hT.last
 have hdone : ∀ (listed : Array Bool) (a : Act) (W : World) (E : Env) (Z : Addr → Prop), listed.size = ops.size → Rel P W0 M (UL s0.base fun j => listed.getD j false) (Dz 0 T (fun j => listed.getD j false) s0) E Z a W → Fc W0 M n E0 Z0 E Z → Region.ready .any ops listed = [] → Q .normal a W := by
  intro listed a W E Z hs R hg hr
  have hall := Xd hs hbw hr
  have e : Dz 0 T (fun j => listed.getD j false) s0 = s' := by
   rw [hlast]
   refine Afy fun j _ hj => hall j ?_
   rw [hlen] at hj
   simpa using hj
  rw [e] at R
  refine hQ a W E Z (R.moreU fun j hj => ?_) hg
  rcases hj with h | ⟨k, hk, h1, h2⟩
  ·show j < s0.base + 128 * ops.size
   omega
  ·have hk' : k < ops.size := by
    rcases Nat.lt_or_ge k ops.size with h | h
    ·exact h
    ·have hk : listed.getD k false = true := hk
     rw [Array.getD_eq_getD_getElem?, Array.getElem?_eq_none (by omega)] at hk
     cases hk
   show j < s0.base + 128 * ops.size
   omega
 intro fuel
 induction fuel with
 | zero =>
  intro listed a W E Z hs hc hu R hg
  have hr : Region.ready .any ops listed = [] := by
   cases hr : Region.ready .any ops listed with
   | nil => rfl
   | cons i l =>
    obtain ⟨h1, o, h2, h3⟩ := mem_ready.1 (show i ∈ Region.ready .any ops listed by rw [hr]; exact List.mem_cons_self)
    have hi : i < ops.size := (Array.getElem?_eq_some_iff.1 h2).1
    have hf : listed.getD i false = false := by
     rw [Array.getD_eq_getD_getElem?] at h1 ⊢
     have : listed[i]? = some listed[i] := by simp [hs, hi]
     rw [this] at h1 ⊢
     exact h1
    have := Wn hi (by omega) hf
    omega
  exact ⟨hr, hdone listed a W E Z hs R hg hr⟩
 | succ fuel ih =>
  intro listed a W E Z hs hc hu R hg
  refine ⟨hdone listed a W E Z hs R hg, fun i hi => ?_⟩
  obtain ⟨h1, o, h2, h3⟩ := mem_ready.1 hi
  have hin : i < ops.size := (Array.getElem?_eq_some_iff.1 h2).1
  have hf : listed.getD i false = false := by
   rw [Array.getD_eq_getD_getElem?] at h1 ⊢
   have : listed[i]? = some listed[i] := by simp [hs, hin]
   rw [this] at h1 ⊢
   exact h1
  have hol : ops.toList[i]? = some o := by simpa using h2
  obtain ⟨u, hTu, hmu, hdid⟩ := hT.get i o hol
  simp only [Nat.zero_add] at hmu hdid
  have hmet : ∀ j oj uj, T[j]? = some (oj, uj) → ops[j]? = some oj ∧ ms[j]? = some (Eq ops j oj uj) := fun j oj uj hj => by
   have hjn : j < ops.size := by
    have := (List.getElem?_eq_some_iff.1 hj).1
    rw [hlen] at this
    simpa using this
   obtain ⟨u2, h4, h5, _⟩ := hT.get j ops[j] (by simp [hjn])
   rw [h4] at hj
   cases hj
   exact ⟨by simp [hjn], by simpa using h5⟩
  have hlater : ∀ j oj uj, T[j]? = some (oj, uj) → i < j → listed.getD j false = true → (Eq ops i o u).apart (Eq ops j oj uj) = true := fun j oj uj hj hlt hl => by
   obtain ⟨h4, h5⟩ := hmet j oj uj hj
   rcases Q0 hap hmu h5 hlt with h6 | h6
   ·exfalso
    have : listed.getD i false = true := Ro hc j j i (Nat.le_refl _) h6 (fun o' ho e he hb => hc j o' hl ho e he hb)
    rw [hf] at this
    cases this
   ·exact h6
  have hearly : ∀ j oj uj, T[j]? = some (oj, uj) → j < i → listed.getD j false = false → (Eq ops j oj uj).apart (Eq ops i o u) = true := fun j oj uj hj hlt hl => by
   obtain ⟨h4, h5⟩ := hmet j oj uj hj
   rcases Q0 hap h5 hmu hlt with h6 | h6
   ·exfalso
    have : listed.getD j false = true := Ro hc i i j (Nat.le_refl _) h6 (fun o' ho e he hb => by
     rw [h2] at ho
     cases ho
     exact h3 e he hb)
    rw [hl] at this
    cases this
   ·exact h6
  have hdif : ∀ j oj uj, T[j]? = some (oj, uj) → listed.getD (0 + j) false ≠ decide (0 + j < i) → (∀ t, t ∈ (Eq ops i o u).rt → oj.dst ≠ some t) ∧ (∀ b, b ∈ u.rd → b ∉ uj.ob.map (·.1)) := fun j oj uj hj hne => by
   rw [Nat.zero_add] at hne
   rcases Nat.lt_trichotomy j i with hlt | heq | hgt
   ·have hl : listed.getD j false = false := by
     cases h : listed.getD j false with
     | false => rfl
     | true => rw [h] at hne; exact absurd (by simp [hlt]) hne
    obtain ⟨q1, q2, q3, q4⟩ := On (hearly j oj uj hj hlt hl)
    refine ⟨fun t ht he => (q1 t (by simp [Eq, he])).1 ht, fun b hb hw => (q3 b (by simpa [Eq] using hw)).1 (by simpa [Eq] using hb)⟩
   ·subst heq
    rw [hf] at hne
    exact absurd (by simp) hne
   ·have hl : listed.getD j false = true := by
     cases h : listed.getD j false with
     | true => rfl
     | false => rw [h] at hne; exact absurd (by simp; omega) hne
    obtain ⟨q1, q2, q3, q4⟩ := On (hlater j oj uj hj hgt hl)
    refine ⟨fun t ht he => q2 t ht (by simp [Eq, he]), fun b hb hw => q4 b (by simpa [Eq] using hb) (by simpa [Eq] using hw)⟩
  have htm : ∀ t, t ∈ (Eq ops i o u).rt → Aa (Dz 0 T (fun j => listed.getD j false) s0).tm t = Aa (Dz 0 T (fun j => decide (j < i)) s0).tm t := fun t ht => Af0 (fun j oj uj hj hne => (hdif j oj uj hj hne).1 t ht) rfl rfl
  have hob : Ef (Dz 0 T (fun j => decide (j < i)) s0) (Dz 0 T (fun j => listed.getD j false) s0) u.rd := fun b hb => Afz (fun j oj uj hj hne => (hdif j oj uj hj hne).2 b hb) rfl
  obtain ⟨b, hw, hb1, hb2⟩ := hdid
  have hbase := (V5 (k := 0) (T := T) (L := fun j => decide (j < i)) (s := s0)).1
  have hbase2 := (V5 (k := 0) (T := T) (L := fun j => listed.getD j false) (s := s0)).1
  rw [hbase] at hb1
  refine Py (id := s0.base + 128 * i) hcall h2 R (n := n) (fun j hj => .inl (by omega)) (fun j h4 h5 h6 => ?_) (b := b) (u := u) ?_ (fun hb => ?_) hb2 (fun v W' E' Z' R' hg' => ?_)
  ·rcases h6 with h6 | ⟨k, hk, h7, h8⟩
   ·omega
   ·have : k ≠ i := fun e => by
     subst e
     have hk : listed.getD k false = true := hk
     rw [hf] at hk
     cases hk
    omega
  ·rw [Agv (s := Dz 0 T (fun j => decide (j < i)) s0) (fun t ht => htm t (by simp [Eq, ht]))]
   exact hw
  ·exact Af4 (hb1 hb) (Adg (fun t ht => htm t (by simp [Eq, ht]))) hob
  ·have hgs : ∀ j, (listed.setIfInBounds i true).getD j false = if j = i then true else listed.getD j false := fun j => Pb listed i j (by omega)
   have hadd : Fd (Dz 0 T (fun j => (listed.setIfInBounds i true).getD j false) s0) ((Dz 0 T (fun j => listed.getD j false) s0).up o.dst u) := by
    refine Afw hTu (by simpa using hf) (by simp [hgs]) (fun j hj => ?_) (fun j oj uj hj hlt hl => ?_)
    ·rw [hgs, if_neg (by omega)]
    ·rw [Nat.zero_add] at hl
     obtain ⟨q1, q2, q3, q4⟩ := On (hlater j oj uj hj hlt hl)
     exact ⟨fun t ht he => (q1 t (by simp [Eq, ht])).2 (by simp [Eq, he]), fun b hb => fun hw => (q3 b (by simpa [Eq] using hb)).2 (by simpa [Eq] using hw)⟩
   have R2 : Rel P W0 M (UL s0.base fun j => (listed.setIfInBounds i true).getD j false) (Dz 0 T (fun j => (listed.setIfInBounds i true).getD j false) s0) E' Z' (a.put o.dst v) W' := by
    refine Rel.moreU (R'.lookEq hadd) ?_
    intro j hj
    rcases hj with (h | ⟨k, hk, h7, h8⟩) | h
    ·exact .inl h
    ·refine .inr ⟨k, ?_, h7, h8⟩
     show (listed.setIfInBounds i true).getD k false = true
     rw [hgs]
     split
     ·rfl
     ·exact hk
    ·exact .inr ⟨i, (by show (listed.setIfInBounds i true).getD i false = true; rw [hgs, if_pos rfl]), h.1, h.2⟩
   refine ih _ _ W' E' Z' (by simpa using hs) (fun j o' hj ho e he hb => ?_) ?_ R2 (hg.trans hg')
   ·show (listed.setIfInBounds i true).getD e.on false = true
    have hj : (listed.setIfInBounds i true).getD j false = true := hj
    rw [hgs] at hj ⊢
    split
    ·rfl
    ·split at hj
     ·rename_i hji
      subst hji
      rw [h2] at ho
      cases ho
      exact h3 e he hb
     ·exact hc j o' hj ho e he hb
   ·have := Wn hin (by omega) hf
    omega
end Go.Vm
namespace Go.Vm
open Go
variable {P : Program} {W0 W W' : World} {M U U' : Nat → Prop} {st : St} {E E' : Env} {Z Z' : Addr → Prop} {a : Act} {ob ob' : List (Nat × Ob)} {o o' : Oper} {u u' : Up} {tv : TV} {id : Nat} {ops : Array Oper}
theorem Ach {ob : List (Nat × Ob)} : ∀ (k : Nat) (todo done : List Nat), done.Nodup → (∀ i, i ∈ done → ∃ o, Aa ob i = some o) → (G3 ob k todo done).Nodup ∧ ∀ i, i ∈ G3 ob k todo done → ∃ o, Aa ob i = some o := by
 intro k
 induction k with
 | zero => intro todo done h1 h2; exact ⟨h1, h2⟩
 | succ k ih =>
  intro todo done h1 h2
  cases todo with
  | nil => exact ⟨h1, h2⟩
  | cons i l =>
   simp only [G3]
   have hadd : done.contains i = false → ∀ o, Aa ob i = some o → (done ++ [i]).Nodup ∧ ∀ j, j ∈ done ++ [i] → ∃ o, Aa ob j = some o := by
    intro hc o ho
    refine ⟨List.nodup_append.2 ⟨h1, by simp, fun x hx y hy e => ?_⟩, fun j hj => ?_⟩
    ·simp only [List.mem_singleton] at hy
     subst hy
     subst e
     simp at hc
     exact hc hx
    ·rcases List.mem_append.1 hj with hj | hj
     ·exact h2 j hj
     ·simp only [List.mem_singleton] at hj
      subst hj
      exact ⟨o, ho⟩
   split
   ·exact ih _ _ h1 h2
   ·rename_i hc
    split
    ·rename_i hl
     obtain ⟨h3, h4⟩ := hadd hc _ hl
     exact ih _ _ h3 h4
    ·rename_i hl
     obtain ⟨h3, h4⟩ := hadd hc _ hl
     exact ih _ _ h3 h4
    ·rename_i hl
     obtain ⟨h3, h4⟩ := hadd hc _ hl
     exact ih _ _ h3 h4
    ·rename_i hl
     obtain ⟨h3, h4⟩ := hadd hc _ hl
     exact ih _ _ h3 h4
    ·exact ih _ _ h1 h2
theorem Kh : ∀ {l : List Nat} {i n : Nat}, n ≤ idx l i n ∧ idx l i n ≤ n + l.length ∧ (i ∈ l → idx l i n < n + l.length ∧ l[idx l i n - n]? = some i) ∧ (i ∉ l → idx l i n = n + l.length) := by
 intro l
 induction l with
 | nil => intro i n; simp [idx]
 | cons j l ih =>
  intro i n
  simp only [idx]
  by_cases h : i = j
  ·subst h
   rw [Jf rfl]
   simp
  ·rw [Lo h]
   simp only
   obtain ⟨h1, h2, h3, h4⟩ := ih (i := i) (n := n + 1)
   simp only [List.length_cons]
   refine ⟨by omega, by omega, fun hm => ?_, fun hm => ?_⟩
   ·have hm' : i ∈ l := by
     rcases List.mem_cons.1 hm with hm | hm
     ·exact absurd hm h
     ·exact hm
    obtain ⟨h5, h6⟩ := h3 hm'
    refine ⟨by omega, ?_⟩
    rw [show idx l i (n + 1) - n = (idx l i (n + 1) - (n + 1)) + 1 by omega]
    simpa using h6
   ·have := h4 (fun hm' => hm (List.mem_cons_of_mem _ hm'))
    omega
theorem Aav {l : List Nat} {i j n : Nat} (hi : i ∈ l) (hj : j ∈ l) (h : idx l i n = idx l j n) : i = j := by
 obtain ⟨_, _, h1, _⟩ := Kh (l := l) (i := i) (n := n)
 obtain ⟨_, _, h2, _⟩ := Kh (l := l) (i := j) (n := n)
 have h3 := (h1 hi).2
 rw [h, (h2 hj).2] at h3
 cases h3
 rfl
theorem T9 {α : Type} : ∀ {l : List (Nat × α)} {k : Nat} {x : α}, Aa l k = some x → (k, x) ∈ l := by
 intro l
 induction l with
 | nil => intro k x h; cases h
 | cons p l ih =>
  intro k x h
  obtain ⟨j, y⟩ := p
  rw [H2] at h
  split at h
  ·rename_i e
   cases h
   subst e
   exact List.mem_cons_self
  ·exact List.mem_cons_of_mem _ (ih h)
theorem Abc {tm : List (Nat × TV)} : ∀ {l : List Nat} {t : Nat} {v : TV}, (t, v) ∈ Iu tm l → Aa tm t = some v := by
 intro l
 induction l with
 | nil => intro t v h; cases h
 | cons s l ih =>
  intro t v h
  simp only [Iu] at h
  split at h
  ·rename_i w hw
   rcases List.mem_cons.1 h with h | h
   ·cases h
    exact hw
   ·exact ih h
  ·exact ih h
def Ob.ren (g : Nat → Nat) : Ob → Ob
 | .box t l => .box t (l.map (SV.ren g))
 | .arr e f r => .arr e f r
 | .iter s p => .iter s p
 | .mp k e r => .mp k e r
theorem Aem (g : Nat → Nat) : ∀ {l : List TV} {i : Nat}, (TV.rens g l)[i]? = (l[i]?).map (TV.ren g) := by
 intro l
 induction l with
 | nil => intro i; simp [TV.rens]
 | cons x l ih =>
  intro i
  cases i with
  | zero => simp [TV.rens]
  | succ i => simp [TV.rens, ih]
theorem Aen (g : Nat → Nat) : ∀ {l : List TV}, (TV.rens g l).length = l.length := by
 intro l
 induction l with
 | nil => rfl
 | cons x l ih => simp [TV.rens, ih]
structure Ren (g : Nat → Nat) (U' : Nat → Prop) (E E' : Env) (ob ob' : List (Nat × Ob)) : Prop where
 u : ∀ i, U' (g i)
 found : ∀ i o', Aa ob' (g i) = some o' → ∃ o, Aa ob i = some o ∧ o' = o.ren g ∧ E'.box (g i) = E.box i ∧ E'.row (g i) = E.row i ∧ E'.cap (g i) = E.cap i
 from' : ∀ k o', Aa ob' k = some o' → ∃ i, g i = k
variable {g : Nat → Nat}
theorem Cs.ren {v : SV} {w : Value} (h : Cs P W Z U E ob v w) (N : Ren g U' E E' ob ob') : Cs P W Z U' E' ob' (v.ren g) w := by
 cases v with
 | c x => exact h
 | arr i =>
  refine ⟨N.u i, h.2.1, fun e f rows hl => ?_⟩
  obtain ⟨o, h1, h2, e1, e2, e3⟩ := N.found i _ hl
  cases o with
  | box t l => cases h2
  | iter _ _ => cases h2
  | mp _ _ _ => cases h2
  | arr e' f' rows' =>
   cases h2
   rw [e2, e3]
   exact h.2.2 _ _ _ h1
 | sub i lo n =>
  refine ⟨N.u i, h.2.1, fun e f rows hl => ?_⟩
  obtain ⟨o, h1, h2, e1, e2, e3⟩ := N.found i _ hl
  cases o with
  | box t l => cases h2
  | iter _ _ => cases h2
  | mp _ _ _ => cases h2
  | arr e' f' rows' =>
   cases h2
   rw [e2, e3]
   exact h.2.2 _ _ _ h1
 | ptr i off =>
  refine ⟨N.u i, h.2.1, fun t l hl => ?_⟩
  obtain ⟨o, h1, h2, e1, e2, e3⟩ := N.found i _ hl
  cases o with
  | box t' l' =>
   rw [e1]
   exact h.2.2 _ _ h1
  | arr e' f' rows' => cases h2
  | iter _ _ => cases h2
  | mp _ _ _ => cases h2
 | ept i r off =>
  refine ⟨N.u i, h.2.1, fun e f rows hl => ?_⟩
  obtain ⟨o, h1, h2, e1, e2, e3⟩ := N.found i _ hl
  cases o with
  | box t l => cases h2
  | iter _ _ => cases h2
  | mp _ _ _ => cases h2
  | arr e' f' rows' =>
   cases h2
   rw [e2]
   exact h.2.2 _ _ _ h1
 | rop e l off => exact h
theorem D0.ren {v : TV} {w : Value} (h : D0 P W Z U E ob v w) (N : Ren g U' E E' ob ob') : D0 P W Z U' E' ob' (v.ren g) w := by
 induction h with
 | one h => exact .one (h.ren N)
 | agg h => exact .agg (Aq.map_left (h.imp fun _ _ _ h => h.ren N))
 | fn f => exact .fn f
 | fnp h => exact .fnp (h.ren N)
 | fnr h => exact .fnr h
 | itr h =>
  refine .itr ⟨N.u _, fun s pos hl => ?_, fun k e l hl => ?_⟩
  ·obtain ⟨o, h1, h2, e1, e2, e3⟩ := N.found _ _ hl
   cases o with
   | iter s' p' => rw [e1]; exact h.2.1 _ _ h1
   | _ => cases h2
  ·obtain ⟨o, h1, h2, e1, e2, e3⟩ := N.found _ _ hl
   cases o with
   | mp k' e' l' => rw [e1]; exact h.2.2 _ _ _ h1
   | _ => cases h2
 | tup hl h ih =>
  refine .tup (by rw [Aen]; exact hl) fun i t u ht hu => ?_
  rw [Aem] at ht
  rename_i l us
  cases hli : l[i]? with
  | none => rw [hli] at ht; cases ht
  | some t0 =>
   rw [hli] at ht
   cases ht
   exact ih i t0 u hli hu
theorem Ael {i : Nat} {o : Ob} (e1 : E'.box (g i) = E.box i) (e2 : E'.row (g i) = E.row i) (e3 : E'.cap (g i) = E.cap i) : Aw E' (g i) (o.ren g) = Aw E i o := by
 cases o <;> simp [Aw, Ob.ren, e1, e2, e3]
theorem Rel.ren (R : Rel P W0 M U st E Z a W) {tm' : List (Nat × TV)} {b : Nat} (N : Ren g U' E E' st.ob ob') (ht : ∀ t v, Aa tm' t = some v → ∃ v0, Aa st.tm t = some v0 ∧ v = v0.ren g) : Rel P W0 M U' ⟨tm', ob', b, st.nt⟩ E' Z a W := by
 have key : ∀ k o', Aa ob' k = some o' → ∃ i o, g i = k ∧ Aa st.ob i = some o ∧ o' = o.ren g ∧ E'.box k = E.box i ∧ E'.row k = E.row i ∧ E'.cap k = E.cap i ∧ Aw E' k o' = Aw E i o := by
  intro k o' h
  obtain ⟨i, rfl⟩ := N.from' k o' h
  obtain ⟨o, h1, rfl, e1, e2, e3⟩ := N.found i o' h
  exact ⟨i, o, rfl, h1, rfl, e1, e2, e3, Ael e1 e2 e3⟩
 refine ⟨R.nt, R.defers, fun t v h => ?_, fun k o' h => ?_, fun k o' h => ?_, fun k j p q c h1 h2 h3 h4 => ?_, fun k p c h1 h2 h3 => ?_, fun k e rows c off h1 h2 h2' => ?_, R.zlt, fun k p c h1 h2 => ?_, R.frame, R.size, R.os, R.tape, R.output, R.hood⟩
 ·obtain ⟨v0, h1, rfl⟩ := ht t v h
  obtain ⟨h2, h3⟩ := R.tm t v0 h1
  exact ⟨h2, h3.ren N⟩
 ·obtain ⟨i, o, h1, h2, rfl, e1, e2, e3, _⟩ := key k o' h
  have := R.ob i o h2
  cases o with
  | box t l =>
   obtain ⟨cur, h3, h4⟩ := this
   exact ⟨cur, by rw [e1]; exact h3, Aq.map_left (h4.imp fun _ _ _ h => h.ren N)⟩
  | arr e f rows =>
   show Em P W Z e rows (E'.row k) (E'.cap k)
   rw [e2, e3]
   exact this
  | iter s pos =>
   show W.heap[E'.box k]? = _
   rw [e1]
   exact this
  | mp kt et l =>
   obtain ⟨es, c, n, h3, h4⟩ := this
   exact ⟨es, c, n, by rw [e1]; exact h3, h4⟩
 ·obtain ⟨i, o, h1, _⟩ := key k o' h
  rw [← h1]
  exact N.u i
 ·obtain ⟨i, o, g1, h5, _, _, _, _, b1⟩ := key k p h1
  obtain ⟨i', o', g2, h6, _, _, _, _, b2⟩ := key j q h2
  rw [b1] at h3
  rw [b2] at h4
  have := R.inj i i' o o' c h5 h6 h3 h4
  subst this
  rw [← g1, ← g2]
 ·obtain ⟨i, o, g1, h5, rfl, _, _, _, b1⟩ := key k p h1
  rw [b1] at h2
  refine R.free i o c h5 h2 (fun e rows he => ?_)
  subst he
  exact h3 e rows rfl
 ·obtain ⟨i, o, g1, h5, h6, _, q2, q3, b1⟩ := key k _ h1
  cases o with
  | box t l => cases h6
  | iter _ _ => cases h6
  | mp _ _ _ => cases h6
  | arr e' f' rows' =>
   cases h6
   exact R.frz i _ _ c off h5 (by rw [← q3]; exact h2) (by rw [← q2]; exact h2')
 ·obtain ⟨i, o, g1, h5, _, _, _, _, b1⟩ := key k p h1
  rw [b1] at h2
  exact R.own i o c h5 h2
theorem Rel.clean (R : Rel P W0 M U st E Z a W) (np : Nat) (keep : List Nat) : ∃ E', Rel P W0 M (fun j => j < (st.clean np keep).base) (st.clean np keep) E' Z a W ∧ (∀ i, i < 64 * np → E'.box i = E.box i) ∧ 64 * np ≤ (st.clean np keep).base := by
 generalize hids : G3 st.ob 100 ((List.range np).map (64 * ·) ++ (Iu st.tm keep).flatMap (fun x => x.2.ids)) [] = ids
 obtain ⟨hnd, hal⟩ := Ach (ob := st.ob) 100 ((List.range np).map (64 * ·) ++ (Iu st.tm keep).flatMap (fun x => x.2.ids)) [] List.nodup_nil (fun i h => by cases h)
 rw [hids] at hnd hal
 let g : Nat → Nat := fun i => match Nat.blt i (64 * np) && Nat.beq (i % 64) 0 with
  | true => i
  | false => 64 * np + idx ids i 0
 let inv : Nat → Nat := fun k => if k < 64 * np then k else ids.getD (k - 64 * np) 0
 let E' : Env := ⟨fun k => E.box (inv k), fun k => E.row (inv k), fun k => E.cap (inv k)⟩
 let f : Nat → Option (Nat × Ob) := fun i => match Aa st.ob i with
  | some (.box t l) => some (g i, .box t (l.map (SV.ren g)))
  | some (.arr e f r) => some (g i, .arr e f r)
  | some (.iter s p) => some (g i, .iter s p)
  | some (.mp k e r) => some (g i, .mp k e r)
  | none => none
 have hcl : st.clean np keep = ⟨(Iu st.tm keep).map (fun x => (x.1, x.2.ren g)), ids.filterMap f, 64 * np + ids.length + 1, st.nt⟩ := by
  unfold St.clean
  simp only [hids]
  rfl
 rw [hcl]
 have hg : ∀ i, (i < 64 * np ∧ g i = i) ∨ (g i = 64 * np + idx ids i 0) := fun i => by
  show (_ ∧ (match Nat.blt i (64 * np) && Nat.beq (i % 64) 0 with | true => i | false => 64 * np + idx ids i 0) = i) ∨ (match Nat.blt i (64 * np) && Nat.beq (i % 64) 0 with | true => i | false => 64 * np + idx ids i 0) = _
  cases h : Nat.blt i (64 * np) && Nat.beq (i % 64) 0 with
  | true =>
   rw [Bool.and_eq_true] at h
   exact .inl ⟨by simpa [Nat.blt_eq] using h.1, rfl⟩
  | false => exact .inr rfl
 have hinv : ∀ i, i ∈ ids → inv (g i) = i := fun i hi => by
  rcases hg i with ⟨h1, h2⟩ | h2
  ·rw [h2]
   show (if i < 64 * np then i else _) = i
   rw [if_pos h1]
  ·rw [h2]
   show (if 64 * np + idx ids i 0 < 64 * np then _ else ids.getD (64 * np + idx ids i 0 - 64 * np) 0) = i
   rw [if_neg (by omega), Nat.add_sub_cancel_left]
   obtain ⟨_, _, h3, _⟩ := Kh (l := ids) (i := i) (n := 0)
   have := (h3 hi).2
   rw [Nat.sub_zero] at this
   rw [List.getD_eq_getElem?_getD, this]
   rfl
 have hmem : ∀ k o', Aa (ids.filterMap f) k = some o' → ∃ i o, i ∈ ids ∧ g i = k ∧ Aa st.ob i = some o ∧ o' = o.ren g := by
  intro k o' h
  obtain ⟨i, hi, hf⟩ := List.mem_filterMap.1 (T9 h)
  have hf : (match Aa st.ob i with | some (.box t l) => some (g i, Ob.box t (l.map (SV.ren g))) | some (.arr e f r) => some (g i, .arr e f r) | some (.iter s p) => some (g i, .iter s p) | some (.mp k e r) => some (g i, .mp k e r) | none => none) = some (k, o') := hf
  split at hf
  ·rename_i t l hl
   cases hf
   exact ⟨i, _, hi, rfl, hl, rfl⟩
  ·rename_i e f r hl
   cases hf
   exact ⟨i, _, hi, rfl, hl, rfl⟩
  ·rename_i s p hl
   cases hf
   exact ⟨i, _, hi, rfl, hl, rfl⟩
  ·rename_i k e r hl
   cases hf
   exact ⟨i, _, hi, rfl, hl, rfl⟩
  ·cases hf
 have hin : ∀ i i', i' ∈ ids → g i' = g i → i = i' := by
  intro i i' hi' he
  obtain ⟨_, _, h3, _⟩ := Kh (l := ids) (i := i') (n := 0)
  obtain ⟨_, _, h5, h6⟩ := Kh (l := ids) (i := i) (n := 0)
  have h4 := (h3 hi').1
  rcases hg i with ⟨h1, h2⟩ | h2 <;> rcases hg i' with ⟨h7, h8⟩ | h8 <;> rw [h2, h8] at he
  ·exact he.symm
  ·omega
  ·omega
  ·by_cases hi : i ∈ ids
   ·exact Aav (n := 0) hi hi' (by omega)
   ·have := h6 hi
    omega
 have N : Ren g (fun j => j < 64 * np + ids.length + 1) E E' st.ob (ids.filterMap f) := by
  refine ⟨fun i => ?_, fun i o' h => ?_, fun k o' h => ?_⟩
  ·obtain ⟨_, h2, _, _⟩ := Kh (l := ids) (i := i) (n := 0)
   rcases hg i with ⟨h1, h3⟩ | h3 <;> show g i < _ <;> omega
  ·obtain ⟨i', o, h1, h2, h3, h4⟩ := hmem _ _ h
   have := hin i i' h1 h2
   subst this
   exact ⟨o, h3, h4, congrArg E.box (hinv i h1), congrArg E.row (hinv i h1), congrArg E.cap (hinv i h1)⟩
  ·obtain ⟨i', o, h1, h2, h3, h4⟩ := hmem _ _ h
   exact ⟨i', h2⟩
 refine ⟨E', R.ren N (fun t v h => ?_), fun i hi => ?_, by show 64 * np ≤ 64 * np + ids.length + 1; omega⟩
 ·have := T9 h
  obtain ⟨⟨t', v0⟩, h1, h2⟩ := List.mem_map.1 this
  cases h2
  exact ⟨v0, Abc h1, rfl⟩
 ·show E.box (if i < 64 * np then i else _) = E.box i
  rw [if_pos hi]
end Go.Vm
namespace Go.Vm
open Go
variable {P : Program} {W0 W W' : World} {M U U' : Nat → Prop} {st st' : St} {E E' : Env} {Z Z' : Addr → Prop} {a : Act} {ops : Array Oper} {cl : FuncId → List Arg → Option Res}
def Inv (P : Program) (W0 : World) (M : Nat → Prop) (n : Nat) (E0 : Env) (Z0 : Addr → Prop) (st : St) (a : Act) (W : World) : Prop := ∃ E Z, Rel P W0 M (fun j => j < st.base) st E Z a W ∧ Fc W0 M n E0 Z0 E Z ∧ n ≤ st.base
def Mv (P : Program) (W0 : World) (M : Nat → Prop) (n : Nat) (E0 : Env) (Z0 : Addr → Prop) (K : Ex → St → Prop) : Exit → Act → World → Prop
 | .normal, a, w => ∃ st, K .normal st ∧ Inv P W0 M n E0 Z0 st a w
 | .exit id, a, w => ∃ st, K (.exit id) st ∧ Inv P W0 M n E0 Z0 st a w
 | .ret, a, w => ∃ st, K .ret st ∧ Inv P W0 M n E0 Z0 st a w
 | _, _, _ => False
variable {n : Nat} {E0 : Env} {Z0 : Addr → Prop}
theorem Inv.clean (h : Inv P W0 M n E0 Z0 st a W) (np : Nat) (hn : n = 64 * np) (keep : List Nat) : Inv P W0 M n E0 Z0 (st.clean np keep) a W := by
 obtain ⟨E, Z, R, hg, hb⟩ := h
 obtain ⟨E', R', he, hb'⟩ := R.clean np keep
 exact ⟨E', Z, R', hg.trans ⟨fun _ h => h, fun _ h => .inl h, fun i hi => he i (hn ▸ hi)⟩, hn ▸ hb'⟩
theorem Inv.tidy (h : Inv P W0 M n E0 Z0 st a W) (np : Nat) (hn : n = 64 * np) (keep : Nat → List Nat) (r : Nat) : Inv P W0 M n E0 Z0 (Fk (Go.Vm.tidy np keep) r st) a W := by
 unfold Fk Go.Vm.tidy
 split
 ·rename_i f hf
  split at hf
  ·cases hf; exact h.clean np hn _
  ·split at hf
   ·cases hf
   ·cases hf; exact h.clean np hn _
 ·exact h
theorem Rel.rebase (R : Rel P W0 M U st E Z a W) (b : Nat) : Rel P W0 M U ⟨st.tm, st.ob, b, st.nt⟩ E Z a W :=
 ⟨R.nt, R.defers, R.tm, R.ob, R.ids, R.inj, R.free, R.frz, R.zlt, R.own, R.frame, R.size, R.os, R.tape, R.output, R.hood⟩
theorem Aek (hcall : Hp P cl) (hm : P.follows .mixedOrders = true) {id : Nat} {draw : Bool} {ms : List Met} (h : Inv P W0 M n E0 Z0 st a W) (hr : Fu P cl ops ((List.range ops.size).zip ops.toList) st = some (st', ms)) (hd : Na ops draw ms = true) {K : Ex → St → Prop} (hK : K .normal ⟨st'.tm, st'.ob, st'.base + 128 * ops.size, st'.nt⟩) :
  (Code.region id ops draw).wp P (Mv P W0 M n E0 Z0 K) a W := by
 obtain ⟨E, Z, R, hg, hb⟩ := h
 have hrange : List.range ops.size = List.range' 0 ops.toList.length := by rw [List.range_eq_range', Array.length_toList]
 have hzip : ∀ j p, ((List.range ops.size).zip ops.toList)[j]? = some p → p.1 = 0 + j ∧ ops[0 + j]? = some p.2 := by
  intro j p hj
  rw [List.getElem?_zip_eq_some] at hj
  obtain ⟨h1, h2⟩ := hj
  rw [Nat.zero_add]
  refine ⟨?_, by simpa using h2⟩
  rw [List.getElem?_range (by
   have := (List.getElem?_eq_some_iff.1 h1).1
   simpa using this)] at h1
  cases h1
  rfl
 have hlen : ((List.range ops.size).zip ops.toList).length = ops.size := by simp
 have hmap : ((List.range ops.size).zip ops.toList).map (·.1) = List.range ops.size := by
  have := List.map_fst_zip (l₁ := List.range ops.size) (l₂ := ops.toList) (by simp)
  exact this
 have R0 : Rel P W0 M (fun j => j < st.base + 128 * 0) st E Z a W := R.moreU (fun j hj => by
  have hj : j < st.base := hj
  show j < st.base + 128 * 0
  omega)
 have hbase : st'.base = st.base := (V0 (Q := fun _ _ _ => True) hcall hzip hb R0 hr (fun _ _ _ _ _ _ => trivial)).1
 have hfin : ∀ a' W' E' Z', Rel P W0 M (fun j => j < st.base + 128 * ops.size) st' E' Z' a' W' → Fc W0 M n E0 Z0 E' Z' → Mv P W0 M n E0 Z0 K .normal a' W' := by
  intro a' W' E' Z' R' hg'
  refine ⟨_, hK, E', Z', (R'.rebase _).moreU fun j hj => ?_, hg', ?_⟩
  ·show j < st'.base + 128 * ops.size
   rw [hbase]
   exact hj
  ·show n ≤ st'.base + 128 * ops.size
   omega
 cases draw with
 | false =>
  refine wp_region ?_
  rw [← hmap]
  refine (V0 hcall hzip hb R0 hr (fun a' W' E' Z' R' hg' => hfin a' W' E' Z' ?_ (hg.trans hg'))).2
  rw [hlen, Nat.zero_add] at R'
  exact R'
 | true =>
  simp only [Na, Bool.and_eq_true] at hd
  rw [hrange] at hr
  obtain ⟨T, hT⟩ := Agi hr
  refine wp_region_any hm ?_
  have e0 : Dz 0 T (fun j => (Array.replicate ops.size false).getD j false) st = st := V7 fun j _ => by
   rw [Array.getD_eq_getD_getElem?, Array.getElem?_replicate]
   split <;> rfl
  have hrep : ∀ j, (Array.replicate ops.size false).getD j false = false := fun j => by
   rw [Array.getD_eq_getD_getElem?, Array.getElem?_replicate]
   split <;> rfl
  have R1 : Rel P W0 M (fun j => j < st.base) st E Z a { W with drawn := W.drawn + 1 } := R.world (fun _ _ => rfl) (fun _ _ _ _ _ => rfl) (fun _ _ _ => rfl) (Nat.le_refl _) rfl rfl rfl
  refine Xo hcall hT hd.2 hd.1 hb hfin ops.size _ a _ E Z (by simp) (fun j o hj => by
   have hj : (Array.replicate ops.size false).getD j false = true := hj
   rw [hrep] at hj
   cases hj) ?_ ?_ hg
  ·unfold unl
   exact Nat.le_trans (List.length_filter_le _ _) (by simp)
  ·rw [e0]
   exact R1.moreU fun j hj => .inl hj
theorem Adk (hcall : Hp P cl) {Q : Exit → Act → World → Prop} {n b : Nat} {E0 : Env} {Z0 : Addr → Prop} {K : St → Prop} (hn : n ≤ b)
  (hQ : ∀ s a' W' E' Z', K s → s.base = b → Rel P W0 M (fun j => j < b + 128 * ops.size) s E' Z' a' W' → Fc W0 M n E0 Z0 E' Z' → Q .normal a' W') :
  ∀ (fuel : Nat) (listed : Array Bool) (s : St) (a : Act) (W : World) (E : Env) (Z : Addr → Prop), listed.size = ops.size → s.base = b → I1 P cl ops fuel listed s K → Rel P W0 M (UL b fun j => listed.getD j false) s E Z a W → Fc W0 M n E0 Z0 E Z → wpAny P .any ops Q fuel listed a W := by
 have hdone : ∀ (listed : Array Bool) (s : St) (a : Act) (W : World) (E : Env) (Z : Addr → Prop), listed.size = ops.size → s.base = b → K s → Rel P W0 M (UL b fun j => listed.getD j false) s E Z a W → Fc W0 M n E0 Z0 E Z → Q .normal a W := by
  intro listed s a W E Z hs hb hK R hg
  refine hQ s a W E Z hK hb (R.moreU fun j hj => ?_) hg
  rcases hj with h | ⟨k, hk, h1, h2⟩
  ·show j < b + 128 * ops.size
   omega
  ·have hk' : k < ops.size := by
    rcases Nat.lt_or_ge k ops.size with h | h
    ·exact h
    ·have hk : listed.getD k false = true := hk
     rw [Array.getD_eq_getD_getElem?, Array.getElem?_eq_none (by omega)] at hk
     cases hk
   show j < b + 128 * ops.size
   omega
 intro fuel
 induction fuel with
 | zero =>
  intro listed s a W E Z hs hb h R hg
  exact ⟨h.1, hdone listed s a W E Z hs hb h.2 R hg⟩
 | succ fuel ih =>
  intro listed s a W E Z hs hb h R hg
  refine ⟨fun hr => hdone listed s a W E Z hs hb (h.1 hr) R hg, fun i hi => ?_⟩
  obtain ⟨o, bb, u, h1, h2, h3, h4, h5⟩ := h.2 i hi
  obtain ⟨h6, o', h7, h8⟩ := mem_ready.1 hi
  have hin : i < ops.size := (Array.getElem?_eq_some_iff.1 h7).1
  have hf : listed.getD i false = false := by
   rw [Array.getD_eq_getD_getElem?] at h6 ⊢
   have : listed[i]? = some listed[i] := by simp [hs, hin]
   rw [this] at h6 ⊢
   exact h6
  rw [hb] at h3
  refine Py (id := b + 128 * i) hcall h1 R (n := n) (fun j hj => .inl (by omega)) (fun j h4 h5 h6 => ?_) (b := bb) (u := u) h2 h3 h4 (fun v W' E' Z' R' hg' => ?_)
  ·rcases h6 with h6 | ⟨k, hk, h7, h8⟩
   ·omega
   ·have : k ≠ i := fun e => by
     subst e
     have hk : listed.getD k false = true := hk
     rw [hf] at hk
     cases hk
    omega
  ·refine ih _ (s.up o.dst u) _ _ _ _ (by simpa using hs) hb h5 (R'.moreU ?_) (hg.trans hg')
   have hgs : ∀ j, (listed.setIfInBounds i true).getD j false = if j = i then true else listed.getD j false := fun j => Pb listed i j (by omega)
   intro j hj
   rcases hj with (h | ⟨k, hk, h7, h8⟩) | h
   ·exact .inl h
   ·refine .inr ⟨k, ?_, h7, h8⟩
    show (listed.setIfInBounds i true).getD k false = true
    rw [hgs]
    split
    ·rfl
    ·exact hk
   ·refine .inr ⟨i, ?_, h⟩
    show (listed.setIfInBounds i true).getD i false = true
    rw [hgs, if_pos rfl]
theorem Zg (hcall : Hp P cl) (hm : P.follows .mixedOrders = true) {k np : Nat} (hn : n = 64 * np) {keep : Nat → List Nat} : ∀ (c : Code) {st : St} {K : Ex → St → Prop} {a : Act} {W : World}, Ea P cl k (tidy np keep) c st K → Inv P W0 M n E0 Z0 st a W → c.wp P (Mv P W0 M n E0 Z0 K) a W := by
 intro c
 induction c with
 | skip =>
  intro st K a W h hi
  exact wp_skip ⟨_, h, hi⟩
 | region id ops draw =>
  intro st K a W h hi
  simp only [Ea] at h
  split at h
  ·rename_i hc
   have hdraw : draw = true := by
    unfold O1 at hc
    cases draw with
    | true => rfl
    | false => simp at hc
   subst hdraw
   obtain ⟨E, Z, R, hg, hb⟩ := hi.tidy np hn keep (2000000 + id)
   generalize Fk (tidy np keep) (2000000 + id) st = s0 at h R hb
   have hrep : ∀ j, (Array.replicate ops.size false).getD j false = false := fun j => by
    rw [Array.getD_eq_getD_getElem?, Array.getElem?_replicate]
    split <;> rfl
   have R1 : Rel P W0 M (fun j => j < s0.base) s0 E Z a { W with drawn := W.drawn + 1 } := R.world (fun _ _ => rfl) (fun _ _ _ _ _ => rfl) (fun _ _ _ => rfl) (Nat.le_refl _) rfl rfl rfl
   refine wp_region_any hm (Adk hcall (n := n) (b := s0.base) hb (fun s a' W' E' Z' hK hbs R' hg' => ?_) ops.size _ s0 a _ E Z (by simp) rfl h (R1.moreU fun j hj => .inl hj) hg)
   refine ⟨_, hK, E', Z', (R'.rebase _).moreU fun j hj => ?_, hg', ?_⟩
   ·show j < s.base + 128 * ops.size
    rw [hbs]
    exact hj
   ·show n ≤ s.base + 128 * ops.size
    omega
  ·obtain ⟨st', ms, hr, hd, hK⟩ := h
   exact Aek hcall hm (hi.tidy np hn _ _) hr hd hK
 | seq x y ihx ihy =>
  intro st K a W h hi
  simp only [Ea] at h
  refine wp_seq (wp_mono (ihx h hi) fun e a' w' hq => ?_)
  cases e with
  | normal => obtain ⟨s, h1, h2⟩ := hq; exact ihy h1 h2
  | exit id => exact hq
  | ret => exact hq
  | _ => exact hq.elim
 | cond c x y ihx ihy =>
  intro st K a W h hi
  simp only [Ea] at h
  split at h
  ·rename_i z hz
   have hc : a.eval c = .bool z := by
    obtain ⟨E, Z, R, _⟩ := hi
    have hr := C4 R hz
    generalize a.eval c = v at hr
    cases hr with
    | one hr =>
     cases (show Ae P W Z (.bool z) v from hr)
     rfl
   split at h
   ·exact wp_cond_true hc (ihx h hi)
   ·exact wp_cond_false hc (ihy h hi)
  ·cases h
 | scope x ih =>
  intro st K a W h hi
  simp only [Ea] at h
  refine wp_scope_straight (wp_mono (ih h hi) fun e a' w' hq => ?_)
  cases e with
  | normal => exact hq
  | exit id => exact hq
  | ret => exact hq
  | _ => exact hq.elim
 | block id x ih =>
  intro st K a W h hi
  simp only [Ea] at h
  refine wp_block (wp_mono (ih h hi) fun e a' w' hq => ?_)
  cases e with
  | normal => exact hq
  | exit i =>
   obtain ⟨s, h1, h2⟩ := hq
   show (if i = id then _ else _)
   simp only at h1
   split at h1
   ·rename_i hb
    rw [if_pos (Nat.eq_of_beq_eq_true hb)]
    exact ⟨s, h1, h2⟩
   ·rename_i hb
    rw [if_neg (fun e => by rw [Jf e] at hb; cases hb)]
    exact ⟨s, h1, h2⟩
  | ret => exact hq
  | _ => exact hq.elim
 | loop x ih =>
  intro st K a W h hi
  simp only [Ea] at h
  have key : ∀ (m : Nat) {st : St} {a : Act} {W : World}, H3 (Ea P cl k (tidy np keep) x) (Fk (tidy np keep) (Code.rid x)) m st K → Inv P W0 M n E0 Z0 st a W → Code.rounds P x (Mv P W0 M n E0 Z0 K) m a W := by
   intro m
   induction m with
   | zero => intro st a W h _; cases h
   | succ m ihm =>
    intro st a W h hi
    rw [rounds_succ]
    simp only [H3] at h
    refine wp_mono (ih h hi) fun e a' w' hq => ?_
    cases e with
    | normal => obtain ⟨s, h1, h2⟩ := hq; exact ihm h1 (h2.tidy np hn _ _)
    | exit id => exact hq
    | ret => exact hq
    | _ => exact hq.elim
  exact wp_loop_rounds k (key k h (hi.tidy np hn _ _))
 | exit id =>
  intro st K a W h hi
  exact wp_exit ⟨_, h, hi⟩
 | ret =>
  intro st K a W h hi
  exact wp_ret ⟨_, h, hi⟩
 | _ => intro st K a W h hi; cases h
end Go.Vm
namespace Go.Vm
open Go
variable {P : Program} {W0 W W' : World} {M U U' : Nat → Prop} {st st' : St} {E E' : Env} {Z Z' : Addr → Prop} {a : Act} {ob : List (Nat × Ob)}
inductive Fg (E : Env) : Nat → List Arg → List (TypeId × Nat) → Prop where
 | nil {q : Nat} : Fg E q [] []
 | v {q : Nat} {t : TV} {l : List Arg} {gs : List (TypeId × Nat)} : Fg E (q + 1) l gs → Fg E q (.v t :: l) gs
 | ref {q : Nat} {t : TypeId} {bs : List BC} {off g : Nat} {l : List Arg} {gs : List (TypeId × Nat)} : E.box (64 * q) = g → Fg E (q + 1) l gs → Fg E q (.ref t bs off :: l) ((t, g) :: gs)
 | fn {q : Nat} {g0 : FuncId} {l : List Arg} {gs : List (TypeId × Nat)} : Fg E (q + 1) l gs → Fg E q (.fn g0 :: l) gs
 | rop {q : Nat} {e : TypeId} {c : List C} {off : Nat} {l : List Arg} {gs : List (TypeId × Nat)} : Fg E (q + 1) l gs → Fg E q (.rop e c off :: l) gs
 | fnr {q : Nat} {g0 : FuncId} {fst : Bool} {e : TypeId} {c : List C} {off : Nat} {l : List Arg} {gs : List (TypeId × Nat)} : Fg E (q + 1) l gs → Fg E q (.fnr g0 fst e c off :: l) gs
 | mv {q : Nat} {e : TypeId} {rows : List (List C)} {l : List Arg} {gs : List (TypeId × Nat)} : Fg E (q + 1) l gs → Fg E q (.mv e rows :: l) gs
theorem Fg.move {q n : Nat} {l : List Arg} {gs : List (TypeId × Nat)} (h : Fg E q l gs) (he : ∀ i, i < n → E'.box i = E.box i) (hn : 64 * (q + l.length) ≤ n) : Fg E' q l gs := by
 induction h with
 | nil => exact .nil
 | v _ ih => exact .v (ih (by simp only [List.length_cons] at hn; omega))
 | ref h1 _ ih => exact .ref (by rw [he _ (by simp only [List.length_cons] at hn; omega)]; exact h1) (ih (by simp only [List.length_cons] at hn; omega))
 | fn _ ih => exact .fn (ih (by simp only [List.length_cons] at hn; omega))
 | rop _ ih => exact .rop (ih (by simp only [List.length_cons] at hn; omega))
 | fnr _ ih => exact .fnr (ih (by simp only [List.length_cons] at hn; omega))
 | mv _ ih => exact .mv (ih (by simp only [List.length_cons] at hn; omega))
theorem Rel.slot (R : Rel P W0 M U st E Z a W) {q : Nat} {t : TV} (hq : q < st.nt) (ht : D0 P W Z U E st.ob t (a.tmps.getD q undef)) : Rel P W0 M U ⟨put st.tm q t, st.ob, st.base, st.nt⟩ E Z a W := by
 refine ⟨R.nt, R.defers, fun s tv h => ?_, R.ob, R.ids, R.inj, R.free, R.frz, R.zlt, R.own, R.frame, R.size, R.os, R.tape, R.output, R.hood⟩
 have h : Aa (put st.tm q t) s = some tv := h
 rw [D8] at h
 split at h
 ·rename_i e
  cases h
  subst e
  exact ⟨hq, ht⟩
 ·exact R.tm s tv h
theorem Y8 : ∀ {args : List Arg} {vals : List Value} {tgs : List (TypeId × Nat)} {pls : List Pl} {q : Nat} {st st0 : St} {E : Env}, Ec P W Z args vals tgs pls → enter q args st = some st0 → Rel P W0 M (fun j => j < 64 * q) st E Z a W →
  (∀ i v, vals[i]? = some v → a.tmps.getD (q + i) undef = v) → q + vals.length ≤ st.nt → (∀ g, g ∈ tgs.map (·.2) ++ pls.filterMap Pl.blk → (∀ A, Z A → A.block ≠ g) ∧ (M g ∨ W0.heap.size ≤ g) ∧ ∀ j o, Aa st.ob j = some o → Aw E j o ≠ some g) → (tgs.map (·.2) ++ pls.filterMap Pl.blk).Nodup →
  ∃ E', Rel P W0 M (fun j => j < 64 * (q + args.length)) st0 E' Z a W ∧ Fg E' q args tgs ∧ st0.base = st.base ∧ (∀ j, j < 64 * q → E'.box j = E.box j) := by
 intro args
 induction args with
 | nil =>
  intro vals tgs pls q st st0 E h he R _ _ _ _
  cases h
  simp only [enter, Option.some.injEq] at he
  subst he
  exact ⟨E, R, .nil, rfl, fun _ _ => rfl⟩
 | cons x args ih =>
  intro vals tgs pls q st st0 E h he R hv hn hg hnd
  cases h with
  | one h1 h2 =>
   simp only [enter] at he
   have hv0 := hv 0 _ rfl
   simp only [Nat.add_zero] at hv0
   have R1 : Rel P W0 M (fun j => j < 64 * (q + 1)) ⟨put st.tm q (.one (.c _)), st.ob, st.base, st.nt⟩ E Z a W := (R.slot (by simp only [List.length_cons] at hn; omega) (by rw [hv0]; exact .one h1)).moreU (fun j hj => by have hj : j < 64 * q := hj; show j < 64 * (q + 1); omega)
   obtain ⟨E', i1, i2, i3, i4⟩ := ih h2 he R1 (fun i v hi => by rw [← hv (i + 1) v (by simpa using hi)]; congr 1; omega) (by simp only [List.length_cons] at hn; show q + 1 + _ ≤ st.nt; omega) hg hnd
   refine ⟨E', i1.moreU (fun j hj => ?_), .v i2, i3, fun j hj => i4 j (by omega)⟩
   have hj : j < 64 * (q + 1 + args.length) := hj
   show j < 64 * (q + (_ :: args).length)
   simp only [List.length_cons]
   omega
  | agg h1 h2 =>
   simp only [enter] at he
   have hv0 := hv 0 _ rfl
   simp only [Nat.add_zero] at hv0
   have R1 : Rel P W0 M (fun j => j < 64 * (q + 1)) ⟨put st.tm q (.agg (List.map SV.c _)), st.ob, st.base, st.nt⟩ E Z a W := (R.slot (by simp only [List.length_cons] at hn; omega) (by rw [hv0]; exact .agg (Aq.map_left (Aq.imp h1 fun _ _ _ h => h)))).moreU (fun j hj => by have hj : j < 64 * q := hj; show j < 64 * (q + 1); omega)
   obtain ⟨E', i1, i2, i3, i4⟩ := ih h2 he R1 (fun i v hi => by rw [← hv (i + 1) v (by simpa using hi)]; congr 1; omega) (by simp only [List.length_cons] at hn; show q + 1 + _ ≤ st.nt; omega) hg hnd
   refine ⟨E', i1.moreU (fun j hj => ?_), .v i2, i3, fun j hj => i4 j (by omega)⟩
   have hj : j < 64 * (q + 1 + args.length) := hj
   show j < 64 * (q + (_ :: args).length)
   simp only [List.length_cons]
   omega
  | @ref t bs off g cur pl _ us gs pls' h1 h2 h3 =>
   simp only [enter] at he
   generalize hbc : Ei (64 * q + 1) bs = r at he
   obtain ⟨vs, obs, n⟩ := r
   simp only at he
   split at he
   ·rename_i hle
    have hle := Nat.le_of_ble_eq_true hle
    have l1 := Im hbc
    have hv0 := hv 0 _ rfl
    simp only [Nat.add_zero] at hv0
    rw [List.filterMap_append, List.map_cons, List.cons_append] at hnd hg
    obtain ⟨hng, hnd'⟩ := List.nodup_cons.1 hnd
    obtain ⟨nd1, nd2, nd3⟩ := List.nodup_append.1 hnd'
    obtain ⟨nd4, nd5, nd6⟩ := List.nodup_append.1 nd2
    have hmay : May W0 M Z st.ob E pl := fun p c hp hc => hg c (List.mem_cons_of_mem _ (List.mem_append_right _ (List.mem_append_left _ (List.mem_filterMap.2 ⟨p, hp, hc⟩))))
    obtain ⟨E2, B, hvs⟩ := J6 (st := st) (ob := st.ob) h2 hbc R (fun j h4 h5 h6 => by
     have h6 : j < 64 * q := h6
     omega) hmay nd4
    have hgg := hg g List.mem_cons_self
    have hE3 : ∀ j, j ≠ 64 * q → (E2.setBox (64 * q) g).box j = E2.box j ∧ (E2.setBox (64 * q) g).row j = E2.row j ∧ (E2.setBox (64 * q) g).cap j = E2.cap j := fun j hj => ⟨by simp [Env.setBox, hj], rfl, rfl⟩
    have hnoU : ¬ (64 * q < 64 * q ∨ (64 * q + 1 ≤ 64 * q ∧ 64 * q < n)) := by omega
    have hl0 : Aa (Am st.ob obs) (64 * q) = none := by
     rw [B.other (64 * q) (.inl (by omega))]
     cases hl : Aa st.ob (64 * q) with
     | none => rfl
     | some o =>
      have : 64 * q < 64 * q := R.ids _ o hl
      omega
    have K3 : Eh W W Z Z (fun j => j < 64 * q ∨ (64 * q + 1 ≤ j ∧ j < n)) (fun j => (j < 64 * q ∨ (64 * q + 1 ≤ j ∧ j < n)) ∨ j = 64 * q) E2 (E2.setBox (64 * q) g) (Am st.ob obs) (put (Am st.ob obs) (64 * q) (.box t vs)) := by
     refine ⟨fun _ h => h, fun _ h => .inl h, fun _ _ => rfl, fun j o' hj hl => hE3 j (fun e => ?_), fun j o' hj hl => ?_⟩
     ·subst e
      exact hnoU hj
     ·rcases Fs hl with ⟨rfl, rfl⟩ | ⟨_, hl⟩
      ·exact absurd hj hnoU
      ·exact ⟨o', hl, D9.refl _⟩
    have R3 := Rel.add (st := ⟨st.tm, Am st.ob obs, st.base, st.nt⟩) (i := 64 * q) (o := .box t vs) (E' := E2.setBox (64 * q) g) B.rel hnoU hE3 ⟨cur, by simp [Env.setBox, h1], hvs.imp fun _ _ _ h => h.move K3⟩ (fun e rows h => by cases h) (fun c hc => by
     simp only [Aw, Env.setBox, if_true, Option.some.injEq] at hc
     subst hc
     refine ⟨hgg.1, hgg.2.1, fun j p hj hp => ?_⟩
     rcases B.blk hj hp with ⟨h4, h5⟩ | ⟨p', hp', hc'⟩
     ·exact hgg.2.2 j p h4 h5
     ·exact hng (List.mem_append_right _ (List.mem_append_left _ (List.mem_filterMap.2 ⟨p', hp', hc'⟩))))
    have hkeys : 64 * q ∉ obs.map (·.1) := fun hk => by
     have := B.keys _ hk
     omega
    have hlk := V1 (ob := st.ob) (x := .box t vs) hkeys
    have R4 := R3.congr (st := st) hlk
    have R5 := (R4.slot (q := q) (t := .one (.ptr (64 * q) off)) (by simp only [List.length_cons] at hn; show q < st.nt; omega) (by
     rw [hv0]
     refine .one ⟨.inr rfl, rfl, fun t' l' hl' => ?_⟩
     simp [Env.setBox]))
    have R6 : Rel P W0 M (fun j => j < 64 * (q + 1)) ⟨put st.tm q (.one (.ptr (64 * q) off)), Am (put st.ob (64 * q) (.box t vs)) obs, st.base, st.nt⟩ (E2.setBox (64 * q) g) Z a W := R5.moreU (fun j hj => by
     show j < 64 * (q + 1)
     rcases hj with (h | h) | h
     ·have h : j < 64 * q := h
      omega
     ·omega
     ·omega)
    obtain ⟨E', i1, i2, i3, i4⟩ := ih h3 he R6 (fun i v hi => by rw [← hv (i + 1) v (by simpa using hi)]; congr 1; omega) (by simp only [List.length_cons] at hn; show q + 1 + _ ≤ st.nt; omega) (fun c hc => by
     have hc' : c ∈ g :: (gs.map (·.2) ++ (pl.filterMap Pl.blk ++ pls'.filterMap Pl.blk)) := by
      rcases List.mem_append.1 hc with hc | hc
      ·exact List.mem_cons_of_mem _ (List.mem_append_left _ hc)
      ·exact List.mem_cons_of_mem _ (List.mem_append_right _ (List.mem_append_right _ hc))
     obtain ⟨c1, c2, c3⟩ := hg c hc'
     refine ⟨c1, c2, fun j p hj hp => ?_⟩
     have hj : Aa (Am (put st.ob (64 * q) (.box t vs)) obs) j = some p := hj
     rw [hlk] at hj
     rcases Fs hj with ⟨rfl, rfl⟩ | ⟨hne, hj⟩
     ·simp only [Aw, Env.setBox, if_true, Option.some.injEq] at hp
      subst hp
      apply hng
      rcases List.mem_append.1 hc with hc | hc
      ·exact List.mem_append_left _ hc
      ·exact List.mem_append_right _ (List.mem_append_right _ hc)
     ·have hp' : Aw E2 j p = some c := by
       obtain ⟨e1, e2, e3⟩ := hE3 j hne
       rw [← hp]
       cases p <;> simp [Aw, e1, e2, e3]
      rcases B.blk hj hp' with ⟨h4, h5⟩ | ⟨p', hp', hc'⟩
      ·exact c3 j p h4 h5
      ·have hm := List.mem_filterMap.2 ⟨p', hp', hc'⟩
       rcases List.mem_append.1 hc with hc | hc
       ·exact nd3 c hc c (List.mem_append_left _ hm) rfl
       ·exact nd6 c hm c hc rfl) (List.nodup_append.2 ⟨nd1, nd5, fun x hx y hy e => nd3 x hx y (List.mem_append_right _ hy) e⟩)
    refine ⟨E', i1.moreU (fun j hj => ?_), .ref ?_ i2, i3, fun j hj => ?_⟩
    ·have hj : j < 64 * (q + 1 + args.length) := hj
     show j < 64 * (q + (_ :: args).length)
     simp only [List.length_cons]
     omega
    ·rw [i4 (64 * q) (by omega)]
     simp [Env.setBox]
    ·rw [i4 j (by omega), (hE3 j (by omega)).1, B.box]
   ·cases he
  | @mv e rows v pl _ us _ pls' h1 h3 =>
   simp only [enter] at he
   have hv0 := hv 0 _ rfl
   simp only [Nat.add_zero] at hv0
   rw [List.filterMap_append] at hnd hg
   obtain ⟨nd1, nd2, nd3⟩ := List.nodup_append.1 hnd
   obtain ⟨nd4, nd5, nd6⟩ := List.nodup_append.1 nd2
   have hmay : May W0 M Z st.ob E pl := fun p c hp hc => hg c (List.mem_append_right _ (List.mem_append_left _ (List.mem_filterMap.2 ⟨p, hp, hc⟩)))
   have hbc : Ei (64 * q) [.own e rows] = ([.arr (64 * q)], [(64 * q, some (.arr e false rows))], 64 * q + 1) := rfl
   obtain ⟨E2, B, hvs⟩ := J6 (st := st) (ob := st.ob) h1 hbc R (fun j h4 h5 h6 => by
    have h6 : j < 64 * q := h6
    omega) hmay nd4
   have R5 := Rel.slot (q := q) (t := .one (.arr (64 * q))) B.rel (by simp only [List.length_cons] at hn; show q < st.nt; omega) (by
    rw [hv0]
    cases hvs with
    | cons hh _ => exact .one hh)
   have R6 : Rel P W0 M (fun j => j < 64 * (q + 1)) ⟨put st.tm q (.one (.arr (64 * q))), Am st.ob [(64 * q, some (.arr e false rows))], st.base, st.nt⟩ E2 Z a W := R5.moreU (fun j hj => by
    show j < 64 * (q + 1)
    rcases hj with h | h
    ·have h : j < 64 * q := h
     omega
    ·omega)
   obtain ⟨E', i1, i2, i3, i4⟩ := ih h3 he R6 (fun i v hi => by rw [← hv (i + 1) v (by simpa using hi)]; congr 1; omega) (by simp only [List.length_cons] at hn; show q + 1 + _ ≤ st.nt; omega) (fun c hc => by
    have hc' : c ∈ tgs.map (·.2) ++ (pl.filterMap Pl.blk ++ pls'.filterMap Pl.blk) := by
     rcases List.mem_append.1 hc with hc | hc
     ·exact List.mem_append_left _ hc
     ·exact List.mem_append_right _ (List.mem_append_right _ hc)
    obtain ⟨c1, c2, c3⟩ := hg c hc'
    refine ⟨c1, c2, fun j p hj hp => ?_⟩
    rcases B.blk hj hp with ⟨h4, h5⟩ | ⟨p', hp', hc'⟩
    ·exact c3 j p h4 h5
    ·have hm := List.mem_filterMap.2 ⟨p', hp', hc'⟩
     rcases List.mem_append.1 hc with hc | hc
     ·exact nd3 c hc c (List.mem_append_left _ hm) rfl
     ·exact nd6 c hm c hc rfl) (List.nodup_append.2 ⟨nd1, nd5, fun x hx y hy e => nd3 x hx y (List.mem_append_right _ hy) e⟩)
   refine ⟨E', i1.moreU (fun j hj => ?_), .mv i2, i3, fun j hj => ?_⟩
   ·have hj : j < 64 * (q + 1 + args.length) := hj
    show j < 64 * (q + (_ :: args).length)
    simp only [List.length_cons]
    omega
   ·rw [i4 j (by omega), B.box]
  | fn h2 =>
   simp only [enter] at he
   have hv0 := hv 0 _ rfl
   simp only [Nat.add_zero] at hv0
   have R1 : Rel P W0 M (fun j => j < 64 * (q + 1)) ⟨put st.tm q (.fn _), st.ob, st.base, st.nt⟩ E Z a W := (R.slot (by simp only [List.length_cons] at hn; omega) (by rw [hv0]; exact .fn _)).moreU (fun j hj => by have hj : j < 64 * q := hj; show j < 64 * (q + 1); omega)
   obtain ⟨E', i1, i2, i3, i4⟩ := ih h2 he R1 (fun i v hi => by rw [← hv (i + 1) v (by simpa using hi)]; congr 1; omega) (by simp only [List.length_cons] at hn; show q + 1 + _ ≤ st.nt; omega) hg hnd
   refine ⟨E', i1.moreU (fun j hj => ?_), .fn i2, i3, fun j hj => i4 j (by omega)⟩
   have hj : j < 64 * (q + 1 + args.length) := hj
   show j < 64 * (q + (_ :: args).length)
   simp only [List.length_cons]
   omega
  | rop h1 h2 =>
   simp only [enter] at he
   have hv0 := hv 0 _ rfl
   simp only [Nat.add_zero] at hv0
   have R1 : Rel P W0 M (fun j => j < 64 * (q + 1)) ⟨put st.tm q (.one (.rop _ _ _)), st.ob, st.base, st.nt⟩ E Z a W := (R.slot (by simp only [List.length_cons] at hn; omega) (by rw [hv0]; exact .one h1)).moreU (fun j hj => by have hj : j < 64 * q := hj; show j < 64 * (q + 1); omega)
   obtain ⟨E', i1, i2, i3, i4⟩ := ih h2 he R1 (fun i v hi => by rw [← hv (i + 1) v (by simpa using hi)]; congr 1; omega) (by simp only [List.length_cons] at hn; show q + 1 + _ ≤ st.nt; omega) hg hnd
   refine ⟨E', i1.moreU (fun j hj => ?_), .rop i2, i3, fun j hj => i4 j (by omega)⟩
   have hj : j < 64 * (q + 1 + args.length) := hj
   show j < 64 * (q + (_ :: args).length)
   simp only [List.length_cons]
   omega
  | fnr h1 h2 =>
   simp only [enter] at he
   have hv0 := hv 0 _ rfl
   simp only [Nat.add_zero] at hv0
   have R1 : Rel P W0 M (fun j => j < 64 * (q + 1)) ⟨put st.tm q (.fnr _ _ _ _ _), st.ob, st.base, st.nt⟩ E Z a W := (R.slot (by simp only [List.length_cons] at hn; omega) (by rw [hv0]; exact .fnr h1)).moreU (fun j hj => by have hj : j < 64 * q := hj; show j < 64 * (q + 1); omega)
   obtain ⟨E', i1, i2, i3, i4⟩ := ih h2 he R1 (fun i v hi => by rw [← hv (i + 1) v (by simpa using hi)]; congr 1; omega) (by simp only [List.length_cons] at hn; show q + 1 + _ ≤ st.nt; omega) hg hnd
   refine ⟨E', i1.moreU (fun j hj => ?_), .fnr i2, i3, fun j hj => i4 j (by omega)⟩
   have hj : j < 64 * (q + 1 + args.length) := hj
   show j < 64 * (q + (_ :: args).length)
   simp only [List.length_cons]
   omega
end Go.Vm
namespace Go.Vm
open Go
variable {P : Program} {W0 W W' : World} {M U U' : Nat → Prop} {st st' : St} {E E' : Env} {Z Z' : Addr → Prop} {a : Act} {ob : List (Nat × Ob)}
def Ey (st : St) (tw : List Nat) : SV → List Nat
 | .arr i => match Aa st.ob i with
  | some (.arr _ false _) => match tw.contains i with
   | false => [i]
   | true => []
  | _ => []
 | _ => []
def Fz (st : St) (tw : List Nat) : SV → List Nat
 | .arr i => match Aa st.ob i with
  | some (.arr _ false _) => match tw.contains i with
   | false => []
   | true => [i]
  | _ => [i]
 | .sub i _ _ => [i]
 | _ => []
theorem Uy (R : Rel P W0 M U st E Z a W) {v : SV} {w : Value} {b : BC} {tw : List Nat} (hv : Cs P W Z U E st.ob v w) (h : Ky P st tw v = some b) :
  ∃ pls, BCs P W (ZL P Z E st.ob (Fz st tw v)) [b] [w] pls ∧ pls.filterMap Pl.blk = (Ey st tw v).filterMap (bk st.ob E) := by
 have hsub : ∀ k, Z k → ZL P Z E st.ob (Fz st tw v) k := fun _ h => .inl h
 cases v with
 | c x =>
  cases x with
  | nil e =>
   simp only [Ky] at h
   split at h
   ·rename_i hok
    cases h
    cases (show Ae P W Z (.nil e) w from hv)
    exact ⟨[(none, 0)], .own (Uq hok) Ur .nil, rfl⟩
   ·cases h
  | int k z => cases h; exact ⟨[], .d ((show Ae P W Z _ w from hv).mono (fun _ _ => rfl) hsub) .nil, rfl⟩
  | bool z => cases h; exact ⟨[], .d ((show Ae P W Z _ w from hv).mono (fun _ _ => rfl) hsub) .nil, rfl⟩
  | str z => cases h; exact ⟨[], .d ((show Ae P W Z _ w from hv).mono (fun _ _ => rfl) hsub) .nil, rfl⟩
  | row e l => cases h; exact ⟨[], .d ((show Ae P W Z _ w from hv).mono (fun _ _ => rfl) hsub) .nil, rfl⟩
  | fn g => cases h; exact ⟨[], .d ((show Ae P W Z _ w from hv).mono (fun _ _ => rfl) hsub) .nil, rfl⟩
 | arr i =>
  have hv' := hv
  obtain ⟨_, _, hv⟩ := hv
  simp only [Ky] at h
  split at h
  ·rename_i e rows hl
   split at h
   ·rename_i hc
    cases h
    refine ⟨[(E.row i, E.cap i)], .own (Em.move (show Em P W Z e rows _ _ from R.ob i _ hl) hsub (fun _ _ => rfl) (fun _ _ _ _ => rfl)) (hv e _ rows hl) .nil, ?_⟩
    simp only [Ey, hl, hc]
    simp [bk, hl, Aw, Pl.blk, List.filterMap_cons]
   ·rename_i hc
    cases h
    refine ⟨[], .d ((J2 R hv' (x := .row e rows) (by simp [St.toC, hl])).mono (fun _ _ => rfl) (ZL.mono fun j hj => ?_)) .nil, ?_⟩
    ·simp only [Fz, hl, hc]
     exact hj
    ·simp only [Ey, hl, hc]
     rfl
  ·rename_i e rows hl
   cases h
   refine ⟨[], .d ((J2 R hv' (x := .row e rows) (by simp [St.toC, hl])).mono (fun _ _ => rfl) (ZL.mono fun j hj => ?_)) .nil, ?_⟩
   ·simp only [Fz, hl]
    exact hj
   ·simp only [Ey, hl]
    rfl
  ·cases h
 | sub i lo k =>
  simp only [Ky] at h
  split at h
  ·rename_i e f rows hl
   cases h
   exact ⟨[], .d (J2 R hv (by simp [St.toC, hl])) .nil, rfl⟩
  ·cases h
 | ptr i off => cases h
 | ept i r off => cases h
 | rop e l off => cases h
theorem Uz (R : Rel P W0 M U st E Z a W) {tw : List Nat} : ∀ {l : List SV} {us : List Value} {bs : List BC}, Aq (Cs P W Z U E st.ob) l us → Mb P st tw l = some bs →
  ∃ pls, BCs P W (ZL P Z E st.ob (l.flatMap (Fz st tw))) bs us pls ∧ pls.filterMap Pl.blk = (l.flatMap (Ey st tw)).filterMap (bk st.ob E) := by
 intro l
 induction l with
 | nil => intro us bs h hb; cases h; cases hb; exact ⟨[], .nil, rfl⟩
 | cons v l ih =>
  intro us bs h hb
  cases h with
  | cons h1 h2 =>
   simp only [Mb] at hb
   split at hb
   ·rename_i b hv
    split at hb
    ·rename_i bs' hvs
     cases hb
     obtain ⟨p1, q1, e1⟩ := Uy R h1 hv
     obtain ⟨p2, q2, e2⟩ := ih h2 hvs
     rw [List.flatMap_cons, List.flatMap_cons]
     exact ⟨p1 ++ p2, BCs.append (l := [b]) (us := [_]) (q1.mono (fun _ _ => rfl) ZL.left (fun _ _ _ _ => rfl)) (q2.mono (fun _ _ => rfl) ZL.right (fun _ _ _ _ => rfl)), by simp [List.filterMap_append, e1, e2]⟩
    ·cases hb
   ·cases hb
theorem Adn (R : Rel P W0 M U st E Z a W) {tw : List Nat} {t : TV} {w : Value} {b : BT} (h : D0 P W Z U E st.ob t w) (hb : Me P st tw t = some b) :
  ∃ pls, Gj P W (ZL P Z E st.ob (t.cells.flatMap (Fz st tw))) b w pls ∧ pls.filterMap Pl.blk = (t.cells.flatMap (Ey st tw)).filterMap (bk st.ob E) := by
 cases h with
 | one h =>
  simp only [Me] at hb
  split at hb
  ·rename_i hv
   cases hb
   obtain ⟨p, q, e⟩ := Uy R h hv
   exact ⟨p, .one (by simpa [TV.cells] using q), by simpa [TV.cells] using e⟩
  ·cases hb
 | agg h =>
  simp only [Me] at hb
  split at hb
  ·rename_i hv
   cases hb
   obtain ⟨p, q, e⟩ := Uz R h hv
   exact ⟨p, .agg q, e⟩
  ·cases hb
 | tup _ _ => cases hb
 | fn g => cases hb
 | fnp h => cases hb
 | fnr h => cases hb
 | itr h => cases hb
theorem Gj.mono {b : BT} {v : Value} {pls : List Pl} (h : Gj P W Z b v pls) (hZ : ∀ k, Z k → Z' k) : Gj P W Z' b v pls := by
 cases h with
 | one h => exact .one (h.mono (fun _ _ => rfl) hZ (fun _ _ _ _ => rfl))
 | agg h => exact .agg (h.mono (fun _ _ => rfl) hZ (fun _ _ _ _ => rfl))
theorem Gb.mono {l : List BT} {us : List Value} {pls : List Pl} (h : Gb P W Z l us pls) (hZ : ∀ k, Z k → Z' k) : Gb P W Z' l us pls := by
 induction h with
 | nil => exact .nil
 | cons h1 _ ih => exact .cons (h1.mono hZ) ih
theorem F9.mono {l : List (List BC)} {gs : List (TypeId × Nat)} {pls : List Pl} (h : F9 P W Z l gs pls) (hZ : ∀ k, Z k → Z' k) : F9 P W Z' l gs pls := by
 induction h with
 | nil => exact .nil
 | cons h1 h2 _ ih => exact .cons h1 (h2.mono (fun _ _ => rfl) hZ (fun _ _ _ _ => rfl)) ih
theorem Adp (R : Rel P W0 M U st E Z a W) {tw : List Nat} : ∀ {l : List TV} {us : List Value} {bs : List BT}, Aq (D0 P W Z U E st.ob) l us → Ju P st tw l = some bs →
  (∃ pls, Gb P W (ZL P Z E st.ob ((l.flatMap TV.cells).flatMap (Fz st tw))) bs us pls ∧ pls.filterMap Pl.blk = ((l.flatMap TV.cells).flatMap (Ey st tw)).filterMap (bk st.ob E)) := by
 intro l
 induction l with
 | nil => intro us bs h hb; cases h; cases hb; exact ⟨[], .nil, rfl⟩
 | cons v l ih =>
  intro us bs h hb
  cases h with
  | cons h1 h2 =>
   simp only [Ju] at hb
   split at hb
   ·rename_i b hv
    split at hb
    ·rename_i bs' hvs
     cases hb
     obtain ⟨p1, q1, e1⟩ := Adn R h1 hv
     obtain ⟨p2, q2, e2⟩ := ih h2 hvs
     rw [List.flatMap_cons, List.flatMap_append, List.flatMap_append]
     exact ⟨p1 ++ p2, .cons (q1.mono ZL.left) (q2.mono ZL.right), by simp [List.filterMap_append, e1, e2]⟩
    ·cases hb
   ·cases hb
theorem Adm {tw : List Nat} {t : TV} {b : BT} (h : Me P st tw t = some b) : t.ids = Cy t.cells := by
 cases t with
 | one v =>
  cases v with
  | ptr i off => cases h
  | ept i r off => cases h
  | _ => simp [TV.ids, TV.cells, Cy]
 | agg l => rfl
 | tup l => rfl
 | fn g => rfl
 | fnp g fst i off => cases h
 | fnr g fst e l off => rfl
 | itr i => cases h
theorem Ado {tw : List Nat} : ∀ {l : List TV} {bs : List BT}, Ju P st tw l = some bs → l.flatMap TV.ids = Cy (l.flatMap TV.cells) := by
 have happ : ∀ (l m : List SV), Cy (l ++ m) = Cy l ++ Cy m := by
  intro l m
  induction l with
  | nil => rfl
  | cons v l ih => simp [Cy, ih]
 intro l
 induction l with
 | nil => intro bs _; rfl
 | cons v l ih =>
  intro bs h
  simp only [Ju] at h
  split at h
  ·rename_i hv
   split at h
   ·rename_i hvs
    rw [List.flatMap_cons, List.flatMap_cons, happ, Adm hv, ih hvs]
   ·cases h
  ·cases h
theorem Tl (l m : List SV) : Cy (l ++ m) = Cy l ++ Cy m := by
 induction l with
 | nil => rfl
 | cons v l ih => simp [Cy, ih]
theorem Mf {tw : List Nat} {v : SV} {i : Nat} (h : i ∈ Ey st tw v) : i ∈ v.ids ∧ tw.contains i = false ∧ ∃ e rows, Aa st.ob i = some (.arr e false rows) := by
 cases v with
 | arr j =>
  simp only [Ey] at h
  split at h
  ·rename_i e rows hl
   split at h
   ·rename_i hc
    rw [List.mem_singleton.1 h]
    exact ⟨by simp [SV.ids], hc, e, rows, hl⟩
   ·cases h
  ·cases h
 | _ => cases h
theorem V2 {tw : List Nat} {v : SV} {i : Nat} (h : i ∈ Fz st tw v) : i ∈ v.ids := by
 cases v with
 | arr j =>
  simp only [Fz] at h
  split at h
  ·split at h
   ·cases h
   ·exact h
  ·exact h
 | sub j lo n => exact h
 | _ => cases h
theorem U0 {tw : List Nat} {v : SV} {i : Nat} (h : i ∈ Ey st tw v) : i ∉ Fz st tw v ∧ (Ey st tw v).Nodup := by
 cases v with
 | arr j =>
  simp only [Ey, Fz] at h ⊢
  split at h
  ·rename_i e rows hl
   split at h
   ·rename_i hc
    simp
   ·cases h
  ·cases h
 | _ => cases h
theorem Wm {l : List Nat} {i j : Nat} (h : i ∈ F2 l) : i ∈ F2 (j :: l) := by
 simp only [F2]
 split
 ·exact List.mem_cons_of_mem _ h
 ·exact h
theorem Agk {l m : List Nat} {i : Nat} (h : i ∈ F2 m) : i ∈ F2 (l ++ m) := by
 induction l with
 | nil => exact h
 | cons j l ih => exact Wm ih
theorem Agl {l m : List Nat} {i : Nat} (h1 : i ∈ l) (h2 : i ∈ m) : i ∈ F2 (l ++ m) := by
 induction l with
 | nil => cases h1
 | cons j l ih =>
  rcases List.mem_cons.1 h1 with rfl | h1
  ·show i ∈ F2 (i :: (l ++ m))
   simp only [F2]
   have : (l ++ m).contains i = true := by simp [h2]
   rw [this]
   exact List.mem_cons_self
  ·exact Wm (ih h1)
theorem Pg {tw : List Nat} : ∀ {l : List SV} {i : Nat}, (i ∈ l.flatMap (Ey st tw) ∨ i ∈ l.flatMap (Fz st tw)) → i ∈ Cy l := by
 intro l
 induction l with
 | nil => intro i h; rcases h with h | h <;> cases h
 | cons v l ih =>
  intro i h
  simp only [List.flatMap_cons, List.mem_append] at h
  simp only [Cy, List.mem_append]
  rcases h with (h | h) | (h | h)
  ·exact .inl (Mf h).1
  ·exact .inr (ih (.inl h))
  ·exact .inl (V2 h)
  ·exact .inr (ih (.inr h))
theorem Adq {tw : List Nat} : ∀ {l : List SV}, (∀ i, i ∈ F2 (Cy l) → i ∈ tw) → (l.flatMap (Ey st tw)).Nodup ∧ ∀ i, i ∈ l.flatMap (Ey st tw) → i ∉ l.flatMap (Fz st tw) := by
 intro l
 induction l with
 | nil => intro _; exact ⟨List.nodup_nil, fun i h => by cases h⟩
 | cons v l ih =>
  intro ht
  obtain ⟨h1, h2⟩ := ih fun i hi => ht i (Agk hi)
  have hno : ∀ i, tw.contains i = false → i ∈ v.ids → i ∉ Cy l := fun i hc hi hl => by
   have := ht i (Agl hi hl)
   simp at hc
   exact hc this
  rw [List.flatMap_cons, List.flatMap_cons]
  refine ⟨List.nodup_append.2 ⟨?_, h1, fun x hx y hy e => ?_⟩, fun i hi => ?_⟩
  ·cases hv : Ey st tw v with
   | nil => exact List.nodup_nil
   | cons x xs =>
    rw [← hv]
    exact (U0 (by rw [hv]; exact List.mem_cons_self)).2
  ·subst e
   obtain ⟨h3, h4, _⟩ := Mf hx
   exact hno x h4 h3 (Pg (.inl hy))
  ·rw [List.mem_append, not_or]
   rcases List.mem_append.1 hi with hi | hi
   ·obtain ⟨h3, h4, _⟩ := Mf hi
    exact ⟨(U0 hi).1, fun hs => hno i h4 h3 (Pg (.inr hs))⟩
   ·refine ⟨fun hs => ?_, h2 i hi⟩
    have hc : tw.contains i = false := by
     obtain ⟨v', hv', hm⟩ := List.mem_flatMap.1 hi
     exact (Mf hm).2.1
    exact hno i hc (V2 hs) (Pg (.inl hi))
end Go.Vm
namespace Go.Vm
open Go
variable {P : Program} {W0 W W' : World} {M U U' : Nat → Prop} {st st' : St} {E E' : Env} {Z Z' : Addr → Prop} {a : Act} {ob : List (Nat × Ob)} {u : Up}
theorem Abq (R : Rel P W0 M U st E Z a W) {t : TypeId} {x : Operand} (h : H6 P st t x = some u) : ∃ v, (Instr.loadAt t (a.eval x)).run P W = .ok v W ∧ D0 P W Z U E st.ob u.tv v := by
 unfold H6 at h
 split at h
 ·rename_i i off hx
  split at h
  ·rename_i t' l hl
   split at h
   ·rename_i tv hp
    cases h
    have hr := C4 R hx
    generalize hv : a.eval x = v at hr
    cases hr with
    | one hr =>
     have he := hr.2.2 t' l hl
     obtain ⟨cur, h1, h2⟩ := R.ob i _ hl
     obtain ⟨w, h3, h4⟩ := K6 (b := ⟨E.box i, 0, none⟩) h2 (fun k u hk => by rw [E9, Io h1]; simpa using hk) hp
     rw [E9, Nat.zero_add, ← he] at h3
     exact ⟨w, h3, h4⟩
   ·cases h
  ·cases h
 ·rename_i i r off hx
  split at h
  ·rename_i e f rows hl
   split at h
   ·rename_i ks hks
    split at h
    ·rename_i tv hp
     cases h
     have hr := C4 R hx
     generalize hv : a.eval x = v at hr
     cases hr with
     | one hr =>
      obtain ⟨hlt, g, o', hpl, he⟩ := hr.2.2 e f rows hl
      obtain ⟨r1, r2, ks', r3, r4, r5, r6⟩ := R.ob i _ hl
      rw [hks] at r3
      cases r3
      obtain ⟨g', off', cur, r7, r8, r9, r10⟩ := r6 (by omega)
      rw [hpl] at r7
      cases r7
      have hget : rows.getD r [] = rows[r] := by simp [List.getD, List.getElem?_eq_getElem hlt]
      rw [hget] at hp
      have hj : rows[r]? = some rows[r] := List.getElem?_eq_getElem hlt
      obtain ⟨us, h1, h2⟩ := My (l := rows[r]) (b := ⟨g, o' + r * P.cellsOf e, none⟩) (fun o x hx => by
       obtain ⟨w, h3, h4⟩ := r10 r _ o x hj hx
       exact ⟨w, by rw [E9, Io r8]; exact h3, h4⟩)
      obtain ⟨w, h3, h4⟩ := K6 (b := ⟨g, o' + r * P.cellsOf e, none⟩) (M0 (r5 _ (List.getElem_mem hlt)) h1) h2 hp
      rw [E9, ← he] at h3
      exact ⟨w, h3, h4⟩
    ·cases h
   ·cases h
  ·cases h
 ·rename_i e l off hx
  split at h
  ·rename_i ks hks
   split at h
   ·rename_i tv hp
    cases h
    have hr := C4 R hx
    generalize hv : a.eval x = v at hr
    cases hr with
    | one hr =>
     obtain ⟨b, h1, ks', h2, h3, h4⟩ := hr
     rw [hks] at h2
     cases h2
     obtain ⟨us, h5, h6⟩ := My (l := l) (b := b) (fun o x hx => (h4 o x hx).2)
     obtain ⟨w, h7, h8⟩ := K6 (M0 h3 h5) h6 hp
     rw [← h1] at h7
     exact ⟨w, h7, h8⟩
   ·cases h
  ·cases h
 ·cases h
theorem Aep {fn : Func} {tmps : Array Value} {us : List Value} {f : ResultVar → Sem Value} : ∀ {l : List ResultVar}, Aq (fun r v => (f r).run P W = .ok v W) l us → (l.mapM f).run P W = .ok us W := by
 intro l h
 induction h with
 | nil => simp
 | cons h1 _ ih => simp [List.mapM_cons, Sem.run_bind, h1, ih]
def Nw (tmps : Array Value) (r : ResultVar) : Sem Value := match r with
 | .tmp t => pure (tmps.getD t undef)
 | .cell a t => do loadVar t (← asAddr (tmps.getD a undef))
theorem Aeq {fn : Func} {tmps : Array Value} {us : List Value} (h : Aq (fun r v => (Nw tmps r).run P W = .ok v W) fn.results.toList us) : (results fn tmps).run P W = .ok (if h : us.toArray.size = 1 then us.toArray[0] else .tuple us.toArray) W := by
 have := Aep (P := P) (W := W) (fn := fn) (tmps := tmps) h
 change (do let vs ← fn.results.mapM (Nw tmps); pure (if h : vs.size = 1 then vs[0] else Value.tuple vs) : Sem Value).run P W = _
 rw [Array.mapM_eq_mapM_toList]
 simp only [Sem.run_bind, Sem.run_map, this]
 rfl
theorem Aeo (R : Rel P W0 M U st E Z a W) : ∀ {l : List ResultVar} {vs : List TV}, Jv P st l = some vs → ∃ us, Aq (fun r v => (Nw a.tmps r).run P W = .ok v W) l us ∧ Aq (D0 P W Z U E st.ob) vs us := by
 intro l
 induction l with
 | nil => intro vs h; simp only [Jv, Option.some.injEq] at h; subst h; exact ⟨[], .nil, .nil⟩
 | cons r l ih =>
  intro vs h
  cases r with
  | tmp t =>
   simp only [Jv] at h
   split at h
   ·rename_i v hv
    split at h
    ·rename_i vs' hvs
     cases h
     obtain ⟨us, h1, h2⟩ := ih hvs
     exact ⟨_ :: us, .cons (by simp [Nw]) h1, .cons (R.tm t v hv).2 h2⟩
    ·cases h
   ·cases h
  | cell b t =>
   simp only [Jv] at h
   split at h
   ·rename_i u hu
    split at h
    ·rename_i vs' hvs
     cases h
     obtain ⟨us, h1, h2⟩ := ih hvs
     obtain ⟨v, h3, h4⟩ := Abq R hu
     refine ⟨v :: us, .cons ?_ h1, .cons h4 h2⟩
     have h3 : (Instr.loadAt t (a.tmps.getD b undef)).run P W = .ok v W := h3
     show (do loadVar t (← asAddr (a.tmps.getD b undef)) : Sem Value).run P W = _
     generalize a.tmps.getD b undef = w at h3 ⊢
     unfold Instr.loadAt at h3
     cases w with
     | pointer p =>
      cases p with
      | some ad => simpa [Instr.sureAddr, asAddr] using h3
      | none => simp [Instr.sureAddr, stuck] at h3
     | _ => simp [Instr.sureAddr, stuck] at h3
    ·cases h
   ·cases h
end Go.Vm
namespace Go.Vm
open Go
variable {P : Program} {W0 W W' : World} {M U U' : Nat → Prop} {st st' : St} {E E' : Env} {Z Z' : Addr → Prop} {a : Act} {ob : List (Nat × Ob)} {u : Up}
inductive Ld (P : Program) (W : World) (Z : Addr → Prop) (U : Nat → Prop) (E : Env) (ob : List (Nat × Ob)) : List (List SV) → List (TypeId × Nat) → Prop where
 | nil : Ld P W Z U E ob [] []
 | cons {vs : List SV} {t : TypeId} {g : Nat} {cur : Array Value} {l : List (List SV)} {gs : List (TypeId × Nat)} : W.heap[g]? = some (.cells cur t (0, 0)) → Aq (Cs P W Z U E ob) vs cur.toList → Ld P W Z U E ob l gs → Ld P W Z U E ob (vs :: l) ((t, g) :: gs)
theorem Aeh (R : Rel P W0 M U st E Z a W) : ∀ {args : List Arg} {q : Nat} {tgs : List (TypeId × Nat)} {bx : List (List SV)}, Fg E q args tgs → F5 st q args = some bx →
  Ld P W Z U E st.ob bx tgs ∧ ∃ ids : List Nat, tgs.map (·.2) = ids.filterMap (bk st.ob E) ∧ ids.Nodup ∧ ∀ i, i ∈ ids → 64 * q ≤ i ∧ ∃ t l, Aa st.ob i = some (.box t l) := by
 intro args
 induction args with
 | nil =>
  intro q tgs bx h hb
  cases h
  simp only [F5, Option.some.injEq] at hb
  subst hb
  exact ⟨.nil, [], rfl, List.nodup_nil, fun i h => by cases h⟩
 | cons x args ih =>
  intro q tgs bx h hb
  cases h with
  | v h =>
   simp only [F5] at hb
   obtain ⟨h1, ids, h2, h3, h4⟩ := ih h hb
   exact ⟨h1, ids, h2, h3, fun i hi => ⟨by have := (h4 i hi).1; omega, (h4 i hi).2⟩⟩
  | ref hg h =>
   simp only [F5] at hb
   split at hb
   ·rename_i t' vs hl
    split at hb
    ·rename_i ht
     have ht := Nat.eq_of_beq_eq_true ht
     subst ht
     split at hb
     ·rename_i r hr
      cases hb
      obtain ⟨h1, ids, h2, h3, h4⟩ := ih h hr
      obtain ⟨cur, h5, h6⟩ := R.ob _ _ hl
      rw [hg] at h5
      refine ⟨.cons h5 h6 h1, 64 * q :: ids, ?_, List.nodup_cons.2 ⟨fun hm => by have := (h4 _ hm).1; omega, h3⟩, fun i hi => ?_⟩
      ·simp [List.filterMap_cons, bk, hl, Aw, hg, h2]
      ·rcases List.mem_cons.1 hi with rfl | hi
       ·exact ⟨Nat.le_refl _, _, _, hl⟩
       ·exact ⟨by have := (h4 i hi).1; omega, (h4 i hi).2⟩
     ·cases hb
    ·cases hb
   ·cases hb
  | fn h =>
   simp only [F5] at hb
   obtain ⟨h1, ids, h2, h3, h4⟩ := ih h hb
   exact ⟨h1, ids, h2, h3, fun i hi => ⟨by have := (h4 i hi).1; omega, (h4 i hi).2⟩⟩
  | rop h =>
   simp only [F5] at hb
   obtain ⟨h1, ids, h2, h3, h4⟩ := ih h hb
   exact ⟨h1, ids, h2, h3, fun i hi => ⟨by have := (h4 i hi).1; omega, (h4 i hi).2⟩⟩
  | fnr h =>
   simp only [F5] at hb
   obtain ⟨h1, ids, h2, h3, h4⟩ := ih h hb
   exact ⟨h1, ids, h2, h3, fun i hi => ⟨by have := (h4 i hi).1; omega, (h4 i hi).2⟩⟩
  | mv h =>
   simp only [F5] at hb
   obtain ⟨h1, ids, h2, h3, h4⟩ := ih h hb
   exact ⟨h1, ids, h2, h3, fun i hi => ⟨by have := (h4 i hi).1; omega, (h4 i hi).2⟩⟩
theorem Adl (R : Rel P W0 M U st E Z a W) {tw : List Nat} : ∀ {bx : List (List SV)} {tgs : List (TypeId × Nat)} {rs : List (List BC)}, Ld P W Z U E st.ob bx tgs → Md P st tw bx = some rs →
  ∃ pls, F9 P W (ZL P Z E st.ob (bx.flatten.flatMap (Fz st tw))) rs tgs pls ∧ pls.filterMap Pl.blk = (bx.flatten.flatMap (Ey st tw)).filterMap (bk st.ob E) := by
 intro bx
 induction bx with
 | nil => intro tgs rs h hb; cases h; cases hb; exact ⟨[], .nil, rfl⟩
 | cons v l ih =>
  intro tgs rs h hb
  cases h with
  | cons h0 h1 h2 =>
   simp only [Md] at hb
   split at hb
   ·rename_i b hv
    split at hb
    ·rename_i bs' hvs
     cases hb
     obtain ⟨p1, q1, e1⟩ := Uz R h1 hv
     obtain ⟨p2, q2, e2⟩ := ih h2 hvs
     rw [List.flatten_cons, List.flatMap_append, List.flatMap_append]
     exact ⟨p1 ++ p2, .cons h0 (q1.mono (fun _ _ => rfl) ZL.left (fun _ _ _ _ => rfl)) (q2.mono ZL.right), by simp [List.filterMap_append, e1, e2]⟩
    ·cases hb
   ·cases hb
theorem Aau : ∀ (bx : List (List SV)), bx.flatMap Cy = Cy bx.flatten := by
 intro bx
 induction bx with
 | nil => rfl
 | cons v l ih => rw [List.flatMap_cons, List.flatten_cons, Tl, ih]
theorem Wq {wk : List Nat} {v : SV} {w : Value} (h : Cs P W Z U E ob v w) : Cs P W Z U E ob (Ie wk v) w := by
 unfold Ie
 split
 ·split
  ·exact Ae.canon (show Ae P W Z (.nil _) w from h)
  ·exact h
 ·exact h
theorem Agz {wk : List Nat} (v : SV) : (Ie wk v).ids = v.ids := by
 unfold Ie
 split
 ·split <;> rfl
 ·rfl
theorem Ag2 {wk : List Nat} (t : TV) : (Mq wk t).ids = t.ids := by
 cases t with
 | one v =>
  cases v with
  | c x =>
   show (TV.one (Ie wk (.c x))).ids = _
   unfold Ie
   split
   ·rename_i e he
    rw [he]
    split <;> rfl
   ·rfl
  | _ => rfl
 | agg l =>
  show Cy (l.map (Ie wk)) = Cy l
  induction l with
  | nil => rfl
  | cons v l ih => simp only [List.map_cons, Cy, Agz, ih]
 | tup l => rfl
 | fn g => rfl
 | fnp g fst i off => rfl
 | fnr g fst e l off => rfl
 | itr i => rfl
theorem Ag0 {wk : List Nat} {vs : List TV} : (vs.map (Mq wk)).flatMap TV.ids = vs.flatMap TV.ids := by
 induction vs with
 | nil => rfl
 | cons v vs ih => rw [List.map_cons, List.flatMap_cons, List.flatMap_cons, ih, Ag2]
theorem Ag1 {wk : List Nat} {vs : List TV} {us : List Value} (h : Aq (D0 P W Z U E ob) vs us) : Aq (D0 P W Z U E ob) (vs.map (Mq wk)) us := by
 refine Aq.map_left (h.imp fun x y _ hx => ?_)
 cases hx with
 | one h => exact .one (Wq h)
 | agg h => exact .agg (Aq.map_left (h.imp fun _ _ _ h => Wq h))
 | tup h1 h2 => exact .tup h1 h2
 | fn g => exact .fn g
 | fnp h => exact .fnp h
 | fnr h => exact .fnr h
 | itr h => exact .itr h
theorem T6 (R : Rel P W0 M U st E Z a W) {n : Nat} {E0 : Env} {Z0 : Addr → Prop} (hg : Fc W0 M n E0 Z0 E Z) {fn : Func} {args : List Arg} {tgs : List (TypeId × Nat)} {e : Ex} {Re : Res} (hbx : Fg E 0 args tgs) {wk : List Nat} (h : Jl P fn args e st wk = some Re) :
  (∀ id, e ≠ .exit id) ∧ ∃ v, (results fn a.tmps).run P W = .ok v W ∧ ∃ Z' p1 p2, Lg P W0 Z0 M tgs Re v W Z' p1 p2 := by
 unfold Jl at h
 split at h
 ·cases h
 ·rename_i e hne
  refine ⟨fun id => hne id, ?_⟩
  split at h
  ·rename_i vs bx hvs hbx2
   obtain ⟨us, hus, hrep⟩ := Aeo R hvs
   obtain ⟨hcells, ids, hids, hnd, hbox⟩ := Aeh R hbx hbx2
   refine ⟨_, Aeq hus, ?_⟩
   have htw : ∀ i, i ∈ F2 (vs.flatMap TV.ids ++ bx.flatMap Cy) → i ∈ Oh st wk (vs.flatMap TV.ids) ++ F2 (vs.flatMap TV.ids ++ bx.flatMap Cy) := fun i hi => List.mem_append_right _ hi
   generalize Oh st wk (vs.flatMap TV.ids) ++ F2 (vs.flatMap TV.ids ++ bx.flatMap Cy) = tw at h htw
   rw [← Ag0 (wk := wk)] at htw
   replace hrep := Ag1 (wk := wk) hrep
   generalize vs.map (Mq wk) = vs at h htw hrep
   have hall : ∀ bs rs, Ju P st tw vs = some bs → Md P st tw bx = some rs → ∃ Z' p1 p2, (Gb P W Z' bs us p1 ∧ ∀ R0 : Res, R0.refs = rs → ∀ v, Hr P W Z' R0.r v p1 → Lg P W0 Z0 M tgs R0 v W Z' p1 p2) := by
    intro bs rs hbs hrs
    obtain ⟨p1, q1, e1⟩ := Adp R hrep hbs
    obtain ⟨p2, q2, e2⟩ := Adl R hcells hrs
    have hC : vs.flatMap TV.ids ++ bx.flatMap Cy = Cy (vs.flatMap TV.cells ++ bx.flatten) := by
     rw [Ado hbs, Aau, Tl]
    obtain ⟨ho1, ho2⟩ := Adq (st := st) (tw := tw) (l := vs.flatMap TV.cells ++ bx.flatten) (fun i hi => htw i (by rw [hC]; exact hi))
    rw [List.flatMap_append] at ho1
    have hown : ∀ i, i ∈ (vs.flatMap TV.cells).flatMap (Ey st tw) ++ bx.flatten.flatMap (Ey st tw) → ∃ e rows, Aa st.ob i = some (.arr e false rows) := fun i hi => by
     rw [← List.flatMap_append] at hi
     obtain ⟨v, hv, hm⟩ := List.mem_flatMap.1 hi
     exact (Mf hm).2.2
    have hlist : tgs.map (·.2) ++ (p1.filterMap Pl.blk ++ p2.filterMap Pl.blk) = (ids ++ ((vs.flatMap TV.cells).flatMap (Ey st tw) ++ bx.flatten.flatMap (Ey st tw))).filterMap (bk st.ob E) := by
     rw [List.filterMap_append, List.filterMap_append, hids, e1, e2]
    have hndall : (ids ++ ((vs.flatMap TV.cells).flatMap (Ey st tw) ++ bx.flatten.flatMap (Ey st tw))).Nodup := List.nodup_append.2 ⟨hnd, ho1, fun x hx y hy exy => by
     subst exy
     obtain ⟨_, t, l, h1⟩ := hbox x hx
     obtain ⟨e', rows, h2⟩ := hown x hy
     rw [h1] at h2
     cases h2⟩
    refine ⟨ZL P Z E st.ob ((vs.flatMap TV.cells).flatMap (Fz st tw) ++ bx.flatten.flatMap (Fz st tw)), p1, p2, q1.mono ZL.left, fun R0 hR0 v hv => ⟨hv, hR0 ▸ q2.mono ZL.right, by rw [hlist]; exact Rr R hndall, fun g hgm => ?_, fun k hk => .inl (hg.zz k hk), fun k hk => ?_, fun k hk => ?_, R.frame, R.size, R.os, R.tape, R.output⟩⟩
    ·rw [hlist] at hgm
     obtain ⟨i, hi, hbk⟩ := List.mem_filterMap.1 hgm
     have hio : ∃ o, Aa st.ob i = some o ∧ Aw E i o = some g ∧ (∀ e rows, o ≠ .arr e true rows) := by
      unfold bk at hbk
      split at hbk
      ·rename_i o ho
       refine ⟨o, ho, hbk, fun e' rows he => ?_⟩
       subst he
       rcases List.mem_append.1 hi with hi | hi
       ·obtain ⟨_, t, l, h1⟩ := hbox i hi
        rw [h1] at ho
        cases ho
       ·obtain ⟨e2, rows2, h1⟩ := hown i hi
        rw [h1] at ho
        cases ho
      ·cases hbk
     obtain ⟨o, h1, h2, h3⟩ := hio
     refine ⟨fun A hz hgA => ?_, R.own i o g h1 h2⟩
     rcases hz with hz | ⟨j, hj, e', f', rows, h4, h5⟩
     ·exact R.free i o g h1 h2 h3 A hz hgA
     ·have := R.inj i j _ _ g h1 h4 h2 (hgA ▸ h5.blk)
      subst this
      rcases List.mem_append.1 hi with hi | hi
      ·obtain ⟨_, t, l, h6⟩ := hbox i hi
       rw [h6] at h4
       cases h4
      ·rw [← List.flatMap_append] at hi hj
       exact ho2 i hi hj
    ·rcases hk with hk | ⟨j, hj, e', f', rows, h4, h5⟩
     ·exact hg.zn k hk
     ·exact .inr (R.own j _ _ h4 h5.blk)
    ·rcases hk with hk | ⟨j, hj, e', f', rows, h4, h5⟩
     ·exact R.zlt k hk
     ·exact R.lt h4 h5.blk
   split at h
   ·rename_i b rs hbs hrs
    cases h
    obtain ⟨Z', p1, p2, hb, hR⟩ := hall _ _ hbs hrs
    cases hb with
    | cons hb1 hb2 =>
     cases hb2
     rw [List.append_nil] at hR
     exact ⟨Z', _, p2, hR _ rfl _ (.of hb1)⟩
   ·rename_i bs rs hne2 hbs hrs
    cases h
    obtain ⟨Z', p1, p2, hb, hR⟩ := hall _ _ hbs hrs
    refine ⟨Z', p1, p2, hR _ rfl _ ?_⟩
    have hlen : us.toArray.size ≠ 1 := by
     intro h1
     have hl : us.length = 1 := by simpa using h1
     cases hb with
     | nil => cases hl
     | cons hb1 hb2 =>
      cases hb2 with
      | nil => exact hne2 _ rfl
      | cons _ _ => simp at hl
    rw [dif_neg hlen]
    exact .tup hb
   ·cases h
  ·cases h
theorem Ux {p : Res → Prop} {R : Res} (h : opt p = some R) : p R := by
 unfold opt at h
 split at h
 ·rename_i hp
  cases h
  exact Classical.choose_spec hp
 ·cases h
theorem Yp (hm : P.follows .mixedOrders = true) (hN : ∀ (f : FuncId) fn c, P.funcs[f]? = some fn → fn.body = some c → (fn.name == "runtime.NumGoroutine") = false) {ext : FuncId → List Arg → Option Res} (hext : Hp P ext) {keep : FuncId → Nat → List Nat} : ∀ k, Hp P (call P ext keep k) := by
 intro k
 induction k with
 | zero => exact hext
 | succ k ih =>
  intro f args Re h
  simp only [call] at h
  split at h
  ·rename_i R' he
   cases h
   exact hext f args _ he
  rename_i hxn
  split at h
  ·rename_i fn hfn
   split at h
   ·rename_i c hc
    split at h
    ·rename_i st0 hst0
     replace h := Ux h
     refine ⟨⟨fn, c, hfn, hN f fn c hfn hc, hc⟩, fun vals W Z M tgs pls hood hargs hnd hM hz => ?_⟩
     have hlen : vals.length = args.length := by
      clear hnd hM hz h hst0 hxn
      induction hargs with
      | nil => rfl
      | one _ _ ih => simp [ih]
      | agg _ _ ih => simp [ih]
      | ref _ _ _ ih => simp [ih]
      | fn _ ih => simp [ih]
      | rop _ _ ih => simp [ih]
      | fnr _ _ ih => simp [ih]
      | mv _ _ ih => simp [ih]
     have hsz : (vals.toArray ++ Array.replicate (fn.ntmps - vals.toArray.size) undef).size = args.length + (fn.ntmps - args.length) := by simp [hlen]
     have R0 : Rel P W M (fun j => j < 64 * 0) ⟨[], [], 64 * args.length, args.length + (fn.ntmps - args.length)⟩ ⟨fun _ => 0, fun _ => none, fun _ => 0⟩ Z { tmps := vals.toArray ++ Array.replicate (fn.ntmps - vals.toArray.size) undef, defers := [] } W :=
      ⟨hsz, rfl, fun t tv h => (by cases h), fun i o h => (by cases h), fun i o h => (by cases h), fun i j o p g h => (by cases h), fun i o g h => (by cases h), fun i e rows g off h => (by cases h), hz, fun i o g h => (by cases h), fun _ _ _ => rfl, Nat.le_refl _, rfl, rfl, rfl, hood⟩
     obtain ⟨E, R1, hb, hbase, _⟩ := Y8 hargs hst0 R0 (fun i v hv => by
      have hi : i < vals.length := (List.getElem?_eq_some_iff.1 hv).1
      rw [Nat.zero_add, Array.getD_eq_getD_getElem?, Array.getElem?_append_left (by simpa using hi)]
      simp [hv]) (by show 0 + vals.length ≤ args.length + (fn.ntmps - args.length); omega) (fun g hg => ⟨(hM g hg).2, .inl (hM g hg).1, fun j o h => (by cases h)⟩) hnd
     rw [Nat.zero_add] at R1
     have hinv : Inv P W M (64 * args.length) E Z st0 { tmps := vals.toArray ++ Array.replicate (fn.ntmps - vals.toArray.size) undef, defers := [] } W := ⟨E, Z, R1.moreU (fun j hj => by rw [hbase]; exact hj), Fc.refl, by rw [hbase]; exact Nat.le_refl _⟩
     refine calls_of_wp hfn hc (wp_mono (Zg ih hm (n := 64 * args.length) (np := args.length) rfl c h hinv) fun ex a' W' hq => ?_)
     have hend : ∀ {e : Ex} {st : St}, Jl P fn args e st (keep f Mr) = some Re → Inv P W M (64 * args.length) E Z st a' W' → a'.defers = [] ∧ ∃ v, (results fn a'.tmps).run P W' = .ok v W' ∧ ∃ v' Z' p1 p2, Ending.returned v = .returned v' ∧ Lg P W Z M tgs Re v' W' Z' p1 p2 := by
      rintro e st h ⟨E', Z', R', hg', _⟩
      obtain ⟨_, v, h1, Z2, p1, p2, h2⟩ := T6 R' hg' (hb.move hg'.box (by omega)) h
      exact ⟨R'.defers, v, h1, v, Z2, p1, p2, rfl, h2⟩
     cases ex with
     | normal => obtain ⟨s, h1, h2⟩ := hq; exact hend h1 h2
     | ret => obtain ⟨s, h1, h2⟩ := hq; exact hend h1 h2
     | exit id =>
      obtain ⟨s, h1, E', Z', R', hg', _⟩ := hq
      exact absurd rfl ((T6 R' hg' (hb.move hg'.box (by omega)) h1).1 id)
     | _ => exact hq.elim
    ·cases h
   ·cases h
  ·cases h
end Go.Vm
namespace Go.Vm
open Go
variable {P : Program} {st st' : St} {o : Oper} {u : Up} {id : Nat} {ops : Array Oper} {Ω : Type}
theorem Gs {K : Up → Option Ω} {x : Option Up} {r : Ω} (h : D4 K x = some r) : ∃ u, x = some u ∧ K u = some r := by
 unfold D4 at h
 split at h
 ·exact ⟨_, rfl, h⟩
 ·cases h
def Gm (cl : FuncId → List Arg → Option Res) (tab : FuncId → List Arg → (Res → Option Ω) → Option Ω) : Prop := ∀ f a K r, tab f a K = some r → ∃ R, cl f a = some R ∧ K R = some r
theorem Aaw {a b n : Int} {K : Up → Option Ω} {u : Up} {r : Ω} (h : inB a b n (K u) = some r) : inB a b n (some u) = some u ∧ K u = some r := by
 unfold inB at *
 repeat' split at h
 all_goals first
  | cases h; done
  | (simp_all)
theorem N9 {x y : Operand} {f : IntKind → IntKind → Int → Int → Option Ω} {g : IntKind → IntKind → Int → Int → Option Up} {K : Up → Option Ω} {r : Ω} (h : two st x y f = some r) (hf : ∀ k k' a b, f k k' a b = some r → ∃ u, g k k' a b = some u ∧ K u = some r) : ∃ u, two st x y g = some u ∧ K u = some r := by
 unfold two at *
 split at h
 ·exact hf _ _ _ _ h
 ·cases h
theorem Yg {op : BinOp} {x y : Operand} {K : Up → Option Ω} {r : Ω} (h : G4 K P st o op x y = some r) : ∃ u, G4 some P st o op x y = some u ∧ K u = some r := by
 have hor : D4 K (Ek P st o) = some r → ∃ u, D4 some (Ek P st o) = some u ∧ K u = some r := fun h => by
  obtain ⟨u, h1, h2⟩ := Gs h
  exact ⟨u, by simp only [h1, D4], h2⟩
 cases op with
 | quo =>
  refine N9 (show two st x y _ = some r from h) fun k k' a b h => ?_
  repeat' split at h
  all_goals first
   | cases h; done
   | (refine ⟨_, ?_, h⟩; simp_all; done)
 | rem =>
  refine N9 (show two st x y _ = some r from h) fun k k' a b h => ?_
  repeat' split at h
  all_goals first
   | cases h; done
   | (refine ⟨_, ?_, h⟩; simp_all; done)
 | shl =>
  refine N9 (show two st x y _ = some r from h) fun k k' a b h => ?_
  repeat' split at h
  all_goals first
   | cases h; done
   | (refine ⟨_, ?_, h⟩; simp_all; done)
 | shr =>
  refine N9 (show two st x y _ = some r from h) fun k k' a b h => ?_
  repeat' split at h
  all_goals first
   | cases h; done
   | (refine ⟨_, ?_, h⟩; simp_all; done)
 | add =>
  unfold G4 at *
  simp only at *
  split at h
  ·rename_i a b hab
   split at h
   ·rename_i hc
    exact ⟨_, by simp only [hc], h⟩
   ·cases h
  ·exact hor h
 | eql =>
  unfold G4 at *
  simp only at *
  split at h
  ·rename_i z hz
   exact ⟨_, by simp only [hz], h⟩
  ·exact hor h
 | neq =>
  unfold G4 at *
  simp only at *
  split at h
  ·rename_i z hz
   exact ⟨_, by simp only [hz], h⟩
  ·exact hor h
 | _ => exact hor h
theorem Xq {t t2 : TypeId} {x y : Operand} {K : Up → Option Ω} {r : Ω} (h : H4 K P st id t t2 x y = some r) : ∃ u, H4 some P st id t t2 x y = some u ∧ K u = some r := by
 unfold H4 at *
 repeat' split at h
 all_goals first
  | cases h; done
  | (refine ⟨_, ?_, h⟩; simp_all; done)
theorem Y2 {src dst : TypeId} {x : Operand} {K : Up → Option Ω} {r : Ω} (h : H5 K P st o src dst x = some r) : ∃ u, H5 some P st o src dst x = some u ∧ K u = some r := by
 have hor : D4 K (Ek P st o) = some r → ∃ u, D4 some (Ek P st o) = some u ∧ K u = some r := fun h => by
  obtain ⟨u, h1, h2⟩ := Gs h
  exact ⟨u, by simp only [h1, D4], h2⟩
 unfold H5 at *
 split at h
 ·split at h
  ·split at h
   ·split at h
    ·rename_i hr
     exact ⟨_, by simp only [hr], h⟩
    ·cases h
   ·split at h
    ·rename_i hr
     exact ⟨_, by simp only [hr], h⟩
    ·cases h
   ·cases h
  ·exact hor h
 ·split at h
  ·split at h
   ·split at h
    ·rename_i hr
     exact ⟨_, by simp only [hr], h⟩
    ·cases h
   ·cases h
  ·exact hor h
 ·exact hor h
theorem Ox {cl : FuncId → List Arg → Option Res} {tab : FuncId → List Arg → (Res → Option Ω) → Option Ω} (ht : Gm cl tab) {K : Up → Option Ω} {f : FuncId} {A : D3} {r : Ω} (h : Gh K P tab st id f A = some r) : ∃ u, Gh some P (fun f a K => match cl f a with | some R => K R | none => none) st id f A = some u ∧ K u = some r := by
 unfold Gh at *
 split at h
 ·rename_i h1 h2
  obtain ⟨R, h3, h4⟩ := ht _ _ _ _ h
  split at h4
  ·rename_i hlo
   obtain ⟨u, h5, h6⟩ := Gs h4
   exact ⟨u, by simp only [h3, hlo, h5, D4], h6⟩
  ·cases h4
 ·cases h
theorem Oz {cl : FuncId → List Arg → Option Res} {tab : FuncId → List Arg → (Res → Option Ω) → Option Ω} (ht : Gm cl tab) {K : Up → Option Ω} {f : FuncId} {xs : List Operand} {ts : List TypeId} {r : Ω} (h : G5 K P tab st id f xs ts = some r) : ∃ u, G5 some P (fun f a K => match cl f a with | some R => K R | none => none) st id f xs ts = some u ∧ K u = some r := by
 unfold G5 at *
 split at h
 ·exact Ox ht h
 ·cases h
theorem R8 {cl : FuncId → List Arg → Option Res} {tab : FuncId → List Arg → (Res → Option Ω) → Option Ω} (ht : Gm cl tab) {K : Up → Option Ω} {f : FuncId} {fst : Bool} {tv : TV} {xs : List Operand} {ts : List TypeId} {r : Ω} (h : Hf K P tab st id f fst tv xs ts = some r) : ∃ u, Hf some P (fun f a K => match cl f a with | some R => K R | none => none) st id f fst tv xs ts = some u ∧ K u = some r := by
 unfold Hf at *
 split at h
 ·split at h
  ·split at h
   ·exact Ox ht h
   ·exact Ox ht h
  ·cases h
 ·cases h
theorem Ty {X : Option Ω} {r : Ω} : ∀ {kc : List ByteArray}, Iv X kc = some r → X = some r ∧ ∀ {u : Up}, Iv (some u) kc = some u := by
 intro kc
 induction kc with
 | nil => intro h; exact ⟨h, rfl⟩
 | cons s l ih =>
  intro h
  simp only [Iv] at h ⊢
  split at h
  ·rename_i hc
   obtain ⟨h1, h2⟩ := ih h
   exact ⟨h1, h2⟩
  ·cases h
theorem Wb {cl : FuncId → List Arg → Option Res} {tab : FuncId → List Arg → (Res → Option Ω) → Option Ω} (ht : Gm cl tab) {K : Up → Option Ω} {r : Ω} (h : I6 P tab st id o K = some r) : ∃ u, step P cl st id o = some u ∧ K u = some r := by
 unfold step
 unfold I6 at *
 split at h
 ·rename_i ho
  split at h
  ·rename_i v hv; exact ⟨_, by simp only [hv], h⟩
  ·cases h
 ·rename_i ho
  split at h
  ·rename_i v hv; exact ⟨_, by simp only [hv], h⟩
  ·cases h
 ·rename_i ho
  split at h
  ·rename_i z hz
   split at h
   ·split at h
    ·rename_i v hv; exact ⟨_, by simp only [hz, hv], h⟩
    ·cases h
   ·split at h
    ·rename_i v hv; exact ⟨_, by simp only [hz, hv], h⟩
    ·cases h
  ·cases h
 ·rename_i ho
  split at h
  ·rename_i v hv; exact ⟨_, by simp only [hv], h⟩
  ·cases h
 ·rename_i ho
  split at h
  ·rename_i v hv; exact ⟨_, by simp only [hv], h⟩
  ·cases h
 ·rename_i ho
  split at h
  ·rename_i l hl hs
   split at h
   ·rename_i v hv; exact ⟨_, by simp only [hl, hs, hv], h⟩
   ·cases h
  ·rename_i l hl hs
   split at h
   ·rename_i n e ha
    split at h
    ·rename_i v hv; exact ⟨_, by simp only [hl, hs, ha, hv], h⟩
    ·cases h
   ·cases h
  ·cases h
 ·obtain ⟨u, h1, h2⟩ := Gs h; exact ⟨u, by simp only [h1, D4], h2⟩
 ·obtain ⟨u, h1, h2⟩ := Gs h; exact ⟨u, by simp only [h1, D4], h2⟩
 ·obtain ⟨u, h1, h2⟩ := Gs h; exact ⟨u, by simp only [h1, D4], h2⟩
 ·rename_i t x j ho
  have hsel : ∀ (e : TypeId) (n : Int) (m : List (List C)) (i : Nat), Jx K e n i m = some r → ∃ u, Jx some e n i m = some u ∧ K u = some r := by
   intro e n m
   induction m with
   | nil => intro i h; cases h
   | cons x m ihm =>
    intro i h
    simp only [Jx] at h ⊢
    split at h
    ·rename_i hc; exact ⟨_, by simp only [hc], h⟩
    ·rename_i hc
     obtain ⟨u, h1, h2⟩ := ihm _ h
     exact ⟨u, by simp only [hc, h1], h2⟩
  unfold Jr at *
  repeat' split at h
  all_goals first
   | cases h; done
   | (refine ⟨_, ?_, h⟩; simp_all; done)
   | (obtain ⟨u, h1, h2⟩ := hsel _ _ _ _ h; refine ⟨u, ?_, h2⟩; simp_all; done)
 ·obtain ⟨u, h1, h2⟩ := Gs h; exact ⟨u, by simp only [h1, D4], h2⟩
 ·obtain ⟨u, h1, h2⟩ := Gs h; exact ⟨u, by simp only [h1, D4], h2⟩
 ·rename_i t x lo hi ho
  unfold Jt at *
  repeat' split at h
  all_goals first
   | cases h; done
   | (obtain ⟨h1, h2⟩ := Aaw h; refine ⟨_, ?_, h2⟩; simp_all; done)
 ·rename_i t x j ho
  have hsel : ∀ (e : TypeId) (n : Int) (l : List SV) (m i : Nat), Jw K P e n l i m = some r → ∃ u, Jw some P e n l i m = some u ∧ K u = some r := by
   intro e n l m
   induction m with
   | zero => intro i h; cases h
   | succ m ihm =>
    intro i h
    simp only [Jw] at h ⊢
    split at h
    ·rename_i hc
     split at h
     ·rename_i tv hp; exact ⟨_, by simp only [hc, hp], h⟩
     ·cases h
    ·rename_i hc
     obtain ⟨u, h1, h2⟩ := ihm _ h
     exact ⟨u, by simp only [hc, h1], h2⟩
  unfold Jq at *
  repeat' split at h
  all_goals first
   | cases h; done
   | (refine ⟨_, ?_, h⟩; simp_all; done)
   | (obtain ⟨u, h1, h2⟩ := hsel _ _ _ _ _ h; refine ⟨u, ?_, h2⟩; simp_all; done)
 ·rename_i t l c ho
  unfold Js at *
  repeat' split at h
  all_goals first
   | cases h; done
   | (refine ⟨_, ?_, h⟩; simp_all; done)
 ·rename_i t j ho
  repeat' split at h
  all_goals first
   | cases h; done
   | (refine ⟨_, ?_, h⟩; simp_all; done)
 ·rename_i x ho
  repeat' split at h
  all_goals first
   | cases h; done
   | (refine ⟨_, ?_, h⟩; simp_all; done)
 ·rename_i op t x y ty ho
  exact Yg h
 ·rename_i c ho
  unfold In at *
  split at h
  ·rename_i hc
   split at h
   ·obtain ⟨u, h1, h2⟩ := Gs h; exact ⟨u, by simp only [h1, D4], h2⟩
   ·cases h
  ·rename_i hc
   split at h
   ·exact Xq h
   ·cases h
  ·obtain ⟨u, h1, h2⟩ := Gs h; exact ⟨u, by simp only [h1, D4], h2⟩
  ·obtain ⟨u, h1, h2⟩ := Gs h; exact ⟨u, by simp only [h1, D4], h2⟩
  ·exact Oz ht h
  ·split at h
   ·exact Oz ht h
   ·exact R8 ht h
   ·exact R8 ht h
   ·exact Oz ht h
   ·cases h
  ·cases h
 ·obtain ⟨u, h1, h2⟩ := Gs h; exact ⟨u, by simp only [h1, D4], h2⟩
 ·exact Y2 h
 ·unfold Ns at *
  repeat' split at h
  all_goals first
   | cases h; done
   | (refine ⟨_, ?_, h⟩; simp_all; done)
 ·unfold L8 at *
  repeat' split at h
  all_goals first
   | cases h; done
   | (refine ⟨_, ?_, h⟩; simp_all; done)
 ·unfold L7 at *
  repeat' split at h
  all_goals first
   | cases h; done
   | (refine ⟨_, ?_, h⟩; simp_all; done)
 ·unfold Nt at *
  repeat' split at h
  all_goals first
   | cases h; done
   | (refine ⟨_, ?_, h⟩; simp_all; done)
 ·unfold L5 at *
  split at h
  ·rename_i hm
   obtain ⟨h1, h2⟩ := Ty h
   exact ⟨_, h2, h1⟩
  ·cases h
 ·unfold L6 at *
  split at h
  ·rename_i hm
   split at h
   ·rename_i hy
    obtain ⟨h1, h2⟩ := Ty h
    exact ⟨_, h2, h1⟩
   ·cases h
  ·cases h
 ·cases h
theorem Ad8 {α : Type} : ∀ {l : List (Nat × α)} {i : Nat} {x : α}, Aa l i = some x → put l i x = l := by
 intro l
 induction l with
 | nil => intro i x h; cases h
 | cons p l ih =>
  intro i x h
  obtain ⟨j, y⟩ := p
  simp only [Aa] at h
  simp only [put]
  split at h
  ·rename_i hb
   cases h
   have := Nat.eq_of_beq_eq_true hb
   subst this
   rfl
  ·rename_i hb
   rw [ih h]
theorem Wp {K : Bool → St → Option Ω} {r : Ω} (h : Og ops st o K = some r) : ∃ b, wanted ops st o = some b ∧ K b st = some r := by
 unfold Og at h
 unfold wanted
 split at h
 ·exact ⟨true, rfl, h⟩
 ·split at h
  ·rename_i d hd
   split at h
   ·rename_i b hb
    have e : ∀ c, c = b → (⟨put st.tm d (.one (.c (.bool c))), st.ob, st.base, st.nt⟩ : St) = st := fun c hc => by
     subst hc
     rw [Ad8 hb]
    split at h
    ·rw [e true rfl] at h
     exact ⟨_, by simp only [hd, hb], h⟩
    ·rw [e false rfl] at h
     exact ⟨_, by simp only [hd, hb], h⟩
   ·rename_i hb
    exact ⟨_, by simp only [hd, hb], h⟩
   ·cases h
  ·cases h
theorem Ae5 {cl : FuncId → List Arg → Option Res} {tab : FuncId → List Arg → (Res → Option Ω) → Option Ω} (ht : Gm cl tab) : ∀ {l : List (Nat × Oper)} {st : St} {K : St → List Met → Option Ω} {r : Ω}, Mj P tab ops l st K = some r → ∃ st' ms, Fu P cl ops l st = some (st', ms) ∧ K st' ms = some r := by
 intro l
 induction l with
 | nil => intro st K r h; exact ⟨st, [], rfl, h⟩
 | cons p l ih =>
  intro st K r h
  obtain ⟨i, o⟩ := p
  simp only [Mj] at h
  obtain ⟨b, hw, h⟩ := Wp h
  cases b with
  | true =>
   obtain ⟨u, hu, h⟩ := Wb ht h
   obtain ⟨st', ms, h1, h2⟩ := ih h
   exact ⟨st', _, by simp only [Fu, hw, hu, h1], h2⟩
  | false =>
   obtain ⟨st', ms, h1, h2⟩ := ih h
   exact ⟨st', _, by simp only [Fu, hw, h1], h2⟩
def Gk (eq : Ω → Ω → Bool) : Prop := ∀ a b, eq a b = true → a = b
theorem Yt {eq : Ω → Ω → Bool} (he : Gk eq) {x y : Option Ω} {r : Ω} (h : J8 eq x y = some r) : x = some r ∧ y = some r := by
 unfold J8 at h
 split at h
 ·split at h
  ·split at h
   ·rename_i hab
    cases h
    have := he _ _ hab
    subst this
    exact ⟨rfl, rfl⟩
   ·cases h
  ·cases h
 ·cases h
theorem Yu {eq : Ω → Ω → Bool} (he : ∀ a, eq a a = true) {x y : Option Ω} (h : x = y) : J8 eq x y = x := by
 subst h
 unfold J8
 cases x with
 | none => rfl
 | some r => simp only [he]
theorem Xc {eq : Ω → Ω → Bool} (he : Gk eq) {f : Nat → Option Ω} {r : Ω} : ∀ {l : List Nat} {i : Nat}, Om eq f i l = some r → ∀ j, j ∈ i :: l → f j = some r := by
 intro l
 induction l with
 | nil => intro i h j hj; simp only [List.mem_singleton] at hj; subst hj; exact h
 | cons x l ih =>
  intro i h j hj
  obtain ⟨h1, h2⟩ := Yt he h
  rcases List.mem_cons.1 hj with rfl | hj
  ·exact h1
  ·exact ih h2 j hj
theorem Adh {eq : Ω → Ω → Bool} (he : Gk eq) {cl : FuncId → List Arg → Option Res} {tab : FuncId → List Arg → (Res → Option Ω) → Option Ω} (ht : Gm cl tab) {K : St → Option Ω} {r : Ω} : ∀ {fuel : Nat} {listed : Array Bool} {st : St}, Kx eq P tab ops fuel listed st K = some r → I1 P cl ops fuel listed st (fun st' => K st' = some r) := by
 intro fuel
 induction fuel with
 | zero =>
  intro listed st h
  simp only [Kx] at h
  split at h
  ·rename_i hr; exact ⟨hr, h⟩
  ·cases h
 | succ fuel ih =>
  intro listed st h
  simp only [Kx] at h
  split at h
  ·rename_i hr
   exact ⟨fun _ => h, fun i hi => (by rw [hr] at hi; cases hi)⟩
  ·rename_i i0 l hr
   refine ⟨fun h0 => (by rw [hr] at h0; cases h0), fun i hi => ?_⟩
   rw [hr] at hi
   have := Xc he h i hi
   try simp only at this
   split at this
   ·rename_i o ho
    obtain ⟨b, hw, h2⟩ := Wp this
    cases b with
    | true =>
     obtain ⟨u, hu, h3⟩ := Wb ht h2
     exact ⟨o, true, u, ho, hw, fun _ => hu, fun e => (by cases e), ih h3⟩
    | false => exact ⟨o, false, .val G8, ho, hw, fun e => (by cases e), fun _ => rfl, ih h2⟩
   ·cases this
theorem Abs {body : St → (Ex → St → Prop) → Prop} {As : St → (Ex → St → Option Ω) → Option Ω} {clean : St → St} {r : Ω} (hb : ∀ st K, As st K = some r → body st fun e st' => K e st' = some r) (hm : ∀ st (K K' : Ex → St → Prop), (∀ e s, K e s → K' e s) → body st K → body st K') : ∀ {n : Nat} {st : St} {K : Ex → St → Option Ω}, Km As clean n st K = some r → H3 body clean n st fun e st' => K e st' = some r := by
 intro n
 induction n with
 | zero => intro st K h; cases h
 | succ n ih =>
  intro st K h
  simp only [Km] at h
  refine hm _ _ _ (fun e s hs => ?_) (hb _ _ h)
  cases e with
  | normal => exact ih hs
  | exit id => exact hs
  | ret => exact hs
theorem Adj {cl : FuncId → List Arg → Option Res} {K K' : St → Prop} (hk : ∀ s, K s → K' s) : ∀ {fuel : Nat} {listed : Array Bool} {st : St}, I1 P cl ops fuel listed st K → I1 P cl ops fuel listed st K' := by
 intro fuel
 induction fuel with
 | zero => intro listed st h; exact ⟨h.1, hk _ h.2⟩
 | succ fuel ih =>
  intro listed st h
  refine ⟨fun h0 => hk _ (h.1 h0), fun i hi => ?_⟩
  obtain ⟨o, b, u, h1, h2, h3, h4, h5⟩ := h.2 i hi
  exact ⟨o, b, u, h1, h2, h3, h4, ih h5⟩
theorem Nb {cl : FuncId → List Arg → Option Res} {n : Nat} {clean : Nat → Option (St → St)} : ∀ (c : Code) {st : St} {K K' : Ex → St → Prop}, (∀ e s, K e s → K' e s) → Ea P cl n clean c st K → Ea P cl n clean c st K' := by
 intro c
 induction c with
 | skip => intro st K K' hk h; exact hk _ _ h
 | region id ops draw =>
  intro st K K' hk h
  simp only [Ea] at h ⊢
  split at h
  ·exact Adj (fun s => hk _ _) h
  ·obtain ⟨s, ms, h1, h2, h3⟩ := h
   exact ⟨s, ms, h1, h2, hk _ _ h3⟩
 | seq x y ihx ihy =>
  intro st K K' hk h
  refine ihx (fun e s hs => ?_) h
  cases e with
  | normal => exact ihy hk hs
  | exit id => exact hk _ _ hs
  | ret => exact hk _ _ hs
 | cond c x y ihx ihy =>
  intro st K K' hk h
  simp only [Ea] at h ⊢
  split at h
  ·split at h
   ·exact ihx hk h
   ·exact ihy hk h
  ·cases h
 | scope x ih =>
  intro st K K' hk h
  simp only [Ea] at h ⊢
  exact ih hk h
 | block id x ih =>
  intro st K K' hk h
  refine ih (fun e s hs => ?_) h
  cases e with
  | normal => exact hk _ _ hs
  | exit i =>
   simp only at hs ⊢
   split at hs
   ·exact hk _ _ hs
   ·exact hk _ _ hs
  | ret => exact hk _ _ hs
 | loop x ih =>
  intro st K K' hk h
  simp only [Ea] at h ⊢
  have key : ∀ (m : Nat) {st : St}, H3 (Ea P cl n clean x) (Fk clean (Code.rid x)) m st K → H3 (Ea P cl n clean x) (Fk clean (Code.rid x)) m st K' := by
   intro m
   induction m with
   | zero => intro st h; cases h
   | succ m ihm =>
    intro st h
    refine ih (fun e s hs => ?_) h
    cases e with
    | normal => exact ihm hs
    | exit id => exact hk _ _ hs
    | ret => exact hk _ _ hs
  exact key _ h
 | exit id => intro st K K' hk h; exact hk _ _ h
 | ret => intro st K K' hk h; exact hk _ _ h
 | _ => intro st K K' hk h; cases h
theorem Adi {cl : FuncId → List Arg → Option Res} {K K' : St → Prop} : ∀ {fuel : Nat} {listed : Array Bool} {st : St}, I1 P cl ops fuel listed st K → I1 P cl ops fuel listed st K' → ∃ s, K s ∧ K' s := by
 intro fuel
 induction fuel with
 | zero => intro listed st h h'; exact ⟨st, h.2, h'.2⟩
 | succ fuel ih =>
  intro listed st h h'
  cases hr : Region.ready .any ops listed with
  | nil => exact ⟨st, h.1 hr, h'.1 hr⟩
  | cons i l =>
   have hi : i ∈ Region.ready .any ops listed := by rw [hr]; exact List.mem_cons_self
   obtain ⟨o, b, u, h1, h2, h3, h4, h5⟩ := h.2 i hi
   obtain ⟨o', b', u', h1', h2', h3', h4', h5'⟩ := h'.2 i hi
   rw [h1] at h1'
   cases h1'
   rw [h2] at h2'
   cases h2'
   have hu : u = u' := by
    cases b with
    | true =>
     have e1 := h3 rfl
     rw [h3' rfl] at e1
     cases e1
     rfl
    | false => rw [h4 rfl, h4' rfl]
   subst hu
   exact ih h5 h5'
theorem Zf {cl : FuncId → List Arg → Option Res} {n : Nat} {clean : Nat → Option (St → St)} : ∀ (c : Code) {st : St} {K K' : Ex → St → Prop}, Ea P cl n clean c st K → Ea P cl n clean c st K' → ∃ e s, K e s ∧ K' e s := by
 intro c
 induction c with
 | skip => intro st K K' h h'; exact ⟨_, _, h, h'⟩
 | region id ops draw =>
  intro st K K' h h'
  simp only [Ea] at h h'
  split at h
  ·rename_i hc
   rw [hc] at h'
   obtain ⟨s, h1, h2⟩ := Adi h h'
   exact ⟨_, _, h1, h2⟩
  ·rename_i hc
   rw [hc] at h'
   obtain ⟨s, ms, h1, h2, h3⟩ := h
   obtain ⟨s', ms', h1', h2', h3'⟩ := h'
   rw [h1] at h1'
   cases h1'
   exact ⟨_, _, h3, h3'⟩
 | seq x y ihx ihy =>
  intro st K K' h h'
  obtain ⟨e, s, h1, h2⟩ := ihx h h'
  cases e with
  | normal => exact ihy h1 h2
  | exit id => exact ⟨_, _, h1, h2⟩
  | ret => exact ⟨_, _, h1, h2⟩
 | cond c x y ihx ihy =>
  intro st K K' h h'
  simp only [Ea] at h h'
  split at h
  ·rename_i z hz
   rw [hz] at h'
   split at h
   ·exact ihx h h'
   ·exact ihy h h'
  ·cases h
 | scope x ih =>
  intro st K K' h h'
  simp only [Ea] at h h'
  exact ih h h'
 | block id x ih =>
  intro st K K' h h'
  obtain ⟨e, s, h1, h2⟩ := ih h h'
  cases e with
  | normal => exact ⟨_, _, h1, h2⟩
  | exit i =>
   simp only at h1 h2
   split at h1
   ·rename_i hb
    rw [hb] at h2
    exact ⟨_, _, h1, h2⟩
   ·rename_i hb
    rw [hb] at h2
    exact ⟨_, _, h1, h2⟩
  | ret => exact ⟨_, _, h1, h2⟩
 | loop x ih =>
  intro st K K' h h'
  simp only [Ea] at h h'
  have key : ∀ (m : Nat) {st : St}, H3 (Ea P cl n clean x) (Fk clean (Code.rid x)) m st K → H3 (Ea P cl n clean x) (Fk clean (Code.rid x)) m st K' → ∃ e s, K e s ∧ K' e s := by
   intro m
   induction m with
   | zero => intro st h; cases h
   | succ m ihm =>
    intro st h h'
    obtain ⟨e, s, h1, h2⟩ := ih h h'
    cases e with
    | normal => exact ihm h1 h2
    | exit id => exact ⟨_, _, h1, h2⟩
    | ret => exact ⟨_, _, h1, h2⟩
  exact key _ h h'
 | exit id => intro st K K' h h'; exact ⟨_, _, h, h'⟩
 | ret => intro st K K' h h'; exact ⟨_, _, h, h'⟩
 | _ => intro st K K' h h'; cases h
theorem Ze {eq : Ω → Ω → Bool} (he : Gk eq) {cl : FuncId → List Arg → Option Res} {tab : FuncId → List Arg → (Res → Option Ω) → Option Ω} (ht : Gm cl tab) {n : Nat} {clean : Nat → Option (St → St)} : ∀ (c : Code) {st : St} {K : Ex → St → Option Ω} {r : Ω}, Fq eq P tab n clean c st K = some r → Ea P cl n clean c st fun e st' => K e st' = some r := by
 intro c
 induction c with
 | skip => intro st K r h; exact h
 | region id ops draw =>
  intro st K r h
  have h : Mh eq P tab ops draw K (Fk clean (2000000 + id) st) = some r := by
   simp only [Fq] at h
   unfold Fk
   split at h <;> exact h
  unfold Mh at h
  simp only [Ea]
  split at h
  ·rename_i hc
   exact Adh he ht h
  ·rename_i hc
   obtain ⟨st', ms, h1, h2⟩ := Ae5 ht h
   split at h2
   ·rename_i hd
    exact ⟨_, _, h1, hd, h2⟩
   ·cases h2
 | seq x y ihx ihy =>
  intro st K r h
  simp only [Fq] at h
  refine Nb x (fun e s hs => ?_) (ihx h)
  cases e with
  | normal => exact ihy hs
  | exit id => exact hs
  | ret => exact hs
 | cond c x y ihx ihy =>
  intro st K r h
  simp only [Fq] at h
  simp only [Ea]
  split at h
  ·split at h
   ·exact ihx h
   ·exact ihy h
  ·cases h
 | scope x ih =>
  intro st K r h
  simp only [Fq] at h
  simp only [Ea]
  exact ih h
 | block id x ih =>
  intro st K r h
  simp only [Fq] at h
  refine Nb x (fun e s hs => ?_) (ih h)
  cases e with
  | normal => exact hs
  | exit i =>
   simp only at hs ⊢
   split at hs
   ·exact hs
   ·exact hs
  | ret => exact hs
 | loop x ih =>
  intro st K r h
  simp only [Fq] at h
  exact Abs (fun st K h => ih h) (fun st K K' hk h => Nb x hk h) h
 | exit id => intro st K r h; exact h
 | ret => intro st K r h; exact h
 | _ => intro st K r h; cases h
theorem Ax {eq : Ω → Ω → Bool} (he : Gk eq) {ext : FuncId → List Arg → Option Res} {keep : FuncId → Nat → List Nat} {k : Nat} {tab : FuncId → List Arg → (Res → Option Ω) → Option Ω} (ht : Gm (call P ext keep k) tab) {f : FuncId} {args : List Arg} (hx : ext f args = none) {dec : Res → Option Ω} {enc : Ω → Res} (hd : ∀ R r, dec R = some r → R = enc r) {r : Ω} (h : As eq P tab keep k f args dec = some r) : ∃ R, call P ext keep (k + 1) f args = some R ∧ dec R = some r := by
 unfold As at h
 split at h
 ·rename_i fn hfn
  split at h
  ·rename_i c hc
   split at h
   ·rename_i st0 hst
    have h1 := Ze he ht c h
    have h2 : Ea P (call P ext keep k) k (tidy args.length (keep f)) c st0 fun e st => Jl P fn args e st (keep f Mr) = some (enc r) := Nb c (fun e s hs => by
     split at hs
     ·rename_i R hR
      rw [hR, hd _ _ hs]
     ·cases hs) h1
    have h3 : ∃ R, call P ext keep (k + 1) f args = some R := by
     simp only [call, hx, hfn, hc, hst]
     unfold opt
     rw [dif_pos ⟨_, h2⟩]
     exact ⟨_, rfl⟩
    obtain ⟨R, hR⟩ := h3
    refine ⟨R, hR, ?_⟩
    simp only [call, hx, hfn, hc, hst] at hR
    obtain ⟨e, s, h4, h5⟩ := Zf c (Ux hR) h1
    rw [h4] at h5
    exact h5
   ·cases h
  ·cases h
 ·cases h
def Sy {Ω : Type} (ext : FuncId → List Arg → Option Res) (f : FuncId) (l : List Arg) (K : Res → Option Ω) (next : Option Ω) : Option Ω := match ext f l with
 | some R => K R
 | none => next
theorem Ahg {ext : FuncId → List Arg → Option Res} {keep : FuncId → Nat → List Nat} {n : Nat} {f : FuncId} {l : List Arg} {K : Res → Option Ω} {next : Option Ω} {r : Ω} (h : Sy ext f l K next = some r) : (∃ R, call P ext keep n f l = some R ∧ K R = some r) ∨ next = some r := by
 unfold Sy at h
 split at h
 ·rename_i R hR
  refine .inl ⟨R, ?_, h⟩
  cases n with
  | zero => exact hR
  | succ n => simp only [call, hR]
 ·exact .inr h
def Kp : FuncId → List Arg → Option Res := fun _ _ => none
theorem Acb : Hp P Kp := fun f args R h => by cases h
def Ac {Ω : Type} : Ω → Ω → Bool := fun _ _ => false
theorem Ay : Gk (Ac (Ω := Ω)) := fun _ _ h => by cases h
end Go.Vm
namespace Go.Vm
open Go Go.RowKit
variable {P : Program} {W : World}
theorem Aat (h : W.ShapedOpen P) (hl : P.globals.size ≤ W.heap.size) : Ih P W (fun _ => False) := ⟨⟨W, h, fun _ _ => rfl⟩, hl, fun k hk => hk.elim⟩
def S8 (P : Program) : Bool := match P.globals.size with
 | 0 => true
 | n + 1 => (((begin P (fun _ _ => 0) default).world.heap[n]?).bind Obj.row?).isSome
theorem Abu {n : Nat} (h : W.ShapedOpen P) (hn : P.globals.size = n + 1) (hr : (((begin P (fun _ _ => 0) default).world.heap[n]?).bind Obj.row?).isSome = true) : P.globals.size ≤ W.heap.size := by
 obtain ⟨⟨z, t⟩, hz⟩ := Option.isSome_iff_exists.1 hr
 obtain ⟨cs, h1, _⟩ := h.1 n z t (by omega) hz
 rcases Nat.lt_or_ge n W.heap.size with g | g
 ·omega
 ·rw [Array.getElem?_eq_none g] at h1; cases h1
theorem Yo {f : FuncId} {args : List Arg} {R : Res} {vals : List Value} {b : Bool} (h : Ig P f args R) (hood : Ih P W (fun _ => False)) (hargs : Ec P W (fun A => A.block < W.heap.size) args vals [] []) (hR : R.r = .one (.d (.bool b))) :
  Calls P f vals.toArray W fun e W' => e = .returned (.bool b) ∧ Below W.heap.size W W' := by
 refine Calls.mono (h.2 vals W (fun A => A.block < W.heap.size) (fun _ => False) [] [] hood hargs List.nodup_nil (fun g hg => by cases hg) (fun k hk => hk)) fun e W' he => ?_
 obtain ⟨v, Z', p1, p2, rfl, H⟩ := he
 have hv := H.res
 rw [hR] at hv
 have : v = .bool b := by
  cases hv with
  | of h =>
   cases h with
   | one h =>
    cases h with
    | d h _ => cases h; rfl
 subst this
 exact ⟨rfl, H.os, H.tape, H.output, H.size, fun k hk => H.frame k hk (fun hf => hf)⟩
end Go.Vm
namespace Go.Vm
open Go Go.RowKit
variable {P : Program} {w : World} {H : Type} {enc : TypeId × Value → H} {spare : Nat → Bool} {held : Bool} {S : List TypeId}
def O0 (P : Program) (S : List TypeId) : Bool := S.all fun e => match Dy P e with
 | some ks => Nat.blt e P.types.size && ks.all fun k => match k with
  | .row e' => S.contains e'
  | .fn => false
  | _ => true
 | none => false
theorem Yx (h : O0 P S = true) {e : TypeId} (he : e ∈ S) : ∃ ks, Dy P e = some ks ∧ e < P.types.size ∧ (∀ e', Kn.row e' ∈ ks → e' ∈ S) ∧ ¬ Kn.fn ∈ ks := by
 have := List.all_eq_true.1 h e he
 split at this
 ·rename_i ks hk
  rw [Bool.and_eq_true] at this
  refine ⟨ks, hk, by simpa [Nat.blt_eq] using this.1, fun e' hm => ?_, fun hm => ?_⟩
  ·have := List.all_eq_true.1 this.2 _ hm
   simpa using this
  ·have := List.all_eq_true.1 this.2 _ hm
   cases this
 ·cases this
theorem Abg {e : TypeId} {ks : List Kn} (h : Dy P e = some ks) : Kj P 6 e = some ks := by
 unfold Dy at h
 split at h
 ·rename_i l hl
  split at h
  ·cases h; exact hl
  ·cases h
 ·cases h
theorem Abk (hl : laidOutB P = true) {T : TypeId} {fs : Array Field} (hlt : T < P.types.size) (ht : P.underlying T = some (.struct fs)) : (∀ f, f ∈ fs.toList → f.type < P.types.size) ∧ P.cellsOf T = (fs.toList.map fun f => P.cellsOf f.type).sum ∧ ∀ j f, fs.toList[j]? = some f → f.offset = ((fs.toList.take j).map fun f => P.cellsOf f.type).sum := by
 unfold laidOutB at hl
 simp only [Bool.and_eq_true] at hl
 have h1 := List.all_eq_true.1 hl.1.1 T (List.mem_range.2 hlt)
 unfold rowFine isVar at h1
 rw [ht] at h1
 simp only [kindOk, hlt, decide_true, Bool.and_true, Bool.not_true, Bool.false_or, Bool.and_eq_true] at h1
 obtain ⟨⟨h0, h2⟩, h3⟩ := h1
 refine ⟨fun f hf => ?_, by simpa using h2, fun j f hj => ?_⟩
 ·have := List.all_eq_true.1 h0 f hf
  simp only [Bool.and_eq_true] at this
  exact of_decide_eq_true this.1
 have := List.all_eq_true.1 h3 j (List.mem_range.2 (List.getElem?_eq_some_iff.1 hj).1)
 rw [hj] at this
 simpa using this
end Go.Vm
namespace Go.Vm
open Go
abbrev LL := List (List C)
def fc : List C → Nat → C
 | l, 0 => l.headD default
 | l, n + 1 => fc l.tail n
def gi (l : List C) (n : Nat) : Int := (fc l n).it
def gb (l : List C) (n : Nat) : Bool := (fc l n).bl
def gs (l : List C) (n : Nat) : ByteArray := (fc l n).st
def gr (l : List C) (n : Nat) : List (List C) := (fc l n).rows
def both {Ω : Type} (a b : Bool) (k : Option Ω) : Option Ω := match a, b with
 | true, true => k
 | _, _ => none
theorem Ahb {Ω : Type} (a : Bool) (k : Option Ω) : both a true k = cond a k none := by cases a <;> rfl
def Au {A T Ω : Type} (g : FuncId) (da : List Arg → Option A) (body : A → Option T) (er : T → Res) (f : FuncId) (l : List Arg) (K : Res → Option Ω) (next : Option Ω) : Option Ω :=
 cond (Nat.beq f g) (match da l with
  | some a => (body a).bind fun r => K (er r)
  | none => next) next
theorem A3 {A T Ω : Type} {g : FuncId} {da : List Arg → Option A} {ea : A → List Arg} {dr : Res → Option T} {body : A → Option T} {er : T → Res} {cl : FuncId → List Arg → Option Res}
  (hae : ∀ l a, da l = some a → l = ea a) (hdr : ∀ R r, dr R = some r → R = er r) (hb : ∀ a v, body a = some v → ∃ R, cl g (ea a) = some R ∧ dr R = some v)
  {f : FuncId} {l : List Arg} {K : Res → Option Ω} {next : Option Ω} {r : Ω} (h : Au g da body er f l K next = some r) : (∃ R, cl f l = some R ∧ K R = some r) ∨ next = some r := by
 unfold Au at h
 cases hf : Nat.beq f g with
 | false => rw [hf] at h; exact .inr h
 | true =>
  rw [hf] at h
  cases Nat.eq_of_beq_eq_true hf
  cases ha : da l with
  | none => rw [ha] at h; exact .inr h
  | some a =>
   rw [ha] at h
   obtain ⟨v, h1, h2⟩ := Option.bind_eq_some_iff.1 h
   obtain ⟨R, h3, h4⟩ := hb a v h1
   refine .inl ⟨R, ?_, ?_⟩
   ·rw [hae l a ha]; exact h3
   ·rw [hdr R v h4]; exact h2
theorem Ahm {P : Program} {A T : Type} {g : FuncId} {da : List Arg → Option A} {ea : A → List Arg} {body : A → Option T} {er : T → Res} (hae : ∀ l a, da l = some a → l = ea a) (hb : ∀ a v, body a = some v → Ig P g (ea a) (er v))
  {f : FuncId} {l : List Arg} {next : Option Res} {R : Res} (h : Au g da body er f l some next = some R) : Ig P f l R ∨ next = some R := by
 unfold Au at h
 cases hf : Nat.beq f g with
 | false => rw [hf] at h; exact .inr h
 | true =>
  rw [hf] at h
  cases Nat.eq_of_beq_eq_true hf
  cases ha : da l with
  | none => rw [ha] at h; exact .inr h
  | some a =>
   rw [ha] at h
   obtain ⟨v, h1, h2⟩ := Option.bind_eq_some_iff.1 h
   cases h2
   rw [hae l a ha]
   exact .inl (hb a v h1)
theorem Ahh {P : Program} {ext : FuncId → List Arg → Option Res} {keep : FuncId → Nat → List Nat} {n : Nat} {f : FuncId} {l : List Arg} {R : Res} (h : ext f l = some R) : call P ext keep n f l = some R := by
 cases n with
 | zero => exact h
 | succ n => simp only [call, h]
end Go.Vm
namespace Go.Vm
open Go
def Tot {α : Type} (g : Nat → Nat → Nat → Option α) (Q : α → Prop) : Prop := ∃ r, Q r ∧ ∃ N, ∀ n a b, N ≤ n → N ≤ a → N ≤ b → g n a b = some r
section
variable {α β : Type} {g h : Nat → Nat → Nat → Option α} {Q Q' : α → Prop}
theorem Tot.ret {r : α} (h : Q r) : Tot (fun _ _ _ => some r) Q := ⟨r, h, 0, fun _ _ _ _ _ _ => rfl⟩
theorem Tot.mono (h : Tot g Q) (hq : ∀ r, Q r → Q' r) : Tot g Q' := by obtain ⟨r, h1, h2⟩ := h; exact ⟨r, hq r h1, h2⟩
theorem Tot.congr {h' : Nat → Nat → Nat → Option α} (h : Tot g Q) (he : ∀ n a b, h' n a b = g n a b) : Tot h' Q := by
 obtain ⟨r, h1, N, h2⟩ := h
 exact ⟨r, h1, N, fun n a b hn ha hb => by rw [he]; exact h2 n a b hn ha hb⟩
theorem Tot.cond {c : Bool} (h1 : c = true → Tot g Q) (h2 : c = false → Tot h Q) : Tot (fun n a b => cond c (g n a b) (h n a b)) Q := by
 cases c with
 | true => exact h1 rfl
 | false => exact h2 rfl
theorem Tot.t {c : Bool} (hc : c = true) (h1 : Tot g Q) : Tot (fun n a b => _root_.cond c (g n a b) (h n a b)) Q := by
 subst hc; exact h1
theorem Tot.f {c : Bool} (hc : c = false) (h1 : Tot h Q) : Tot (fun n a b => _root_.cond c (g n a b) (h n a b)) Q := by
 subst hc; exact h1
theorem Tot.both {c d : Bool} (hc : c = true) (hd : d = true) (h1 : Tot g Q) : Tot (fun n a b => Go.Vm.both c d (g n a b)) Q := by
 subst hc; subst hd; exact h1
theorem Tot.bind {f : Nat → Nat → Nat → Option β} {R : β → Prop} {k : Nat → Nat → Nat → β → Option α} (h1 : Tot f R) (h2 : ∀ r, R r → Tot (fun n a b => k n a b r) Q) : Tot (fun n a b => (f n a b).bind fun r => k n a b r) Q := by
 obtain ⟨r, h3, N, h4⟩ := h1
 obtain ⟨s, h5, M, h6⟩ := h2 r h3
 refine ⟨s, h5, max N M, fun n a b hn ha hb => ?_⟩
 show (f n a b).bind _ = _
 rw [h4 n a b (by omega) (by omega) (by omega)]
 exact h6 n a b (by omega) (by omega) (by omega)
theorem Tot.up {f : Nat → Option α} (hf : ∀ n, f (n + 1) = g n n n) (h : Tot g Q) : Tot (fun n _ _ => f n) Q := by
 obtain ⟨r, h1, N, h2⟩ := h
 refine ⟨r, h1, N + 1, fun n a b hn _ _ => ?_⟩
 obtain ⟨m, rfl⟩ : ∃ m, n = m + 1 := ⟨n - 1, by omega⟩
 show f (m + 1) = _
 rw [hf]
 exact h2 m m m (by omega) (by omega) (by omega)
theorem Tot.in0 (h : Tot g Q) : Tot (fun n _ b => g n n b) Q := by
 obtain ⟨r, h1, N, h2⟩ := h
 exact ⟨r, h1, N, fun n a b hn _ hb => h2 n n b hn hn hb⟩
theorem Tot.in1 (h : Tot g Q) : Tot (fun n a _ => g n a n) Q := by
 obtain ⟨r, h1, N, h2⟩ := h
 exact ⟨r, h1, N, fun n a b hn ha _ => h2 n a n hn ha hn⟩
theorem Tot.step0 {H : Nat → Nat → Nat → Option α} (he : ∀ n a b, H n (a + 1) b = g n a b) (h : Tot g Q) : Tot H Q := by
 obtain ⟨r, h1, N, h2⟩ := h
 refine ⟨r, h1, N + 1, fun n a b hn ha hb => ?_⟩
 obtain ⟨m, rfl⟩ : ∃ m, a = m + 1 := ⟨a - 1, by omega⟩
 rw [he]
 exact h2 n m b (by omega) (by omega) (by omega)
theorem Tot.step1 {H : Nat → Nat → Nat → Option α} (he : ∀ n a b, H n a (b + 1) = g n a b) (h : Tot g Q) : Tot H Q := by
 obtain ⟨r, h1, N, h2⟩ := h
 refine ⟨r, h1, N + 1, fun n a b hn ha hb => ?_⟩
 obtain ⟨m, rfl⟩ : ∃ m, b = m + 1 := ⟨b - 1, by omega⟩
 rw [he]
 exact h2 n a m (by omega) (by omega) (by omega)
theorem Tot.get (h : Tot g Q) : ∃ n r, Q r ∧ g n n n = some r := by
 obtain ⟨r, h1, N, h2⟩ := h
 exact ⟨N, r, h1, h2 N N N (Nat.le_refl _) (Nat.le_refl _) (Nat.le_refl _)⟩
end
theorem Ai {x : Int} (h1 : -9223372036854775808 ≤ x) (h2 : x < 9223372036854775808) : IntKind.i64.wrap x = x := by
 exact IntWalk.i64_in x ⟨h1, by omega⟩
theorem D5 {P : Program} {e : TypeId} {n : Nat} (hb : P.bytesOf e ≤ 1024) (hn : n ≤ 4294967296) : C6 P e n = true := by
 unfold C6
 refine decide_eq_true ⟨?_, by omega⟩
 calc n * P.bytesOf e ≤ 4294967296 * 1024 := Nat.mul_le_mul hn hb
  _ ≤ 70368744177664 := by decide
end Go.Vm
namespace Go.Vm
open Go
inductive Sm (B : Nat) : C → Prop where
 | int (k : IntKind) (n : Int) : (Lit.int k n).wf = true → Sm B (.int k n)
 | bool (b : Bool) : Sm B (.bool b)
 | str (s : ByteArray) : s.size ≤ B → Sm B (.str s)
 | nil (e : TypeId) : Sm B (.nil e)
 | fn (g : Option FuncId) : Sm B (.fn g)
 | row (e : TypeId) (l : List (List C)) : l.length ≤ B → (∀ r, r ∈ l → ∀ x, x ∈ r → Sm B x) → Sm B (.row e l)
def SmR (B : Nat) (r : List C) : Prop := ∀ x, x ∈ r → Sm B x
def SmL (B : Nat) (l : List (List C)) : Prop := l.length ≤ B ∧ ∀ r, r ∈ l → SmR B r
theorem SmR.fc {B : Nat} : ∀ (j : Nat) {r : List C}, SmR B r → Sm B (fc r j) := by
 intro j
 induction j with
 | zero =>
  intro r h
  cases r with
  | nil => exact .bool false
  | cons x r => exact h x List.mem_cons_self
 | succ j ih =>
  intro r h
  show Sm B (Go.Vm.fc r.tail j)
  exact ih fun x hx => h x (List.mem_of_mem_tail hx)
theorem SmR.gs {B : Nat} {r : List C} (h : SmR B r) (j : Nat) : (gs r j).size ≤ B := by
 unfold Go.Vm.gs
 have h := h.fc j
 generalize Go.Vm.fc r j = x at h ⊢
 cases h with
 | str s hs => exact hs
 | _ => exact Nat.zero_le _
theorem SmR.gr {B : Nat} {r : List C} (h : SmR B r) (j : Nat) : SmL B (gr r j) := by
 unfold Go.Vm.gr
 have h := h.fc j
 generalize Go.Vm.fc r j = x at h ⊢
 cases h with
 | row e l hl hr => exact ⟨hl, hr⟩
 | _ => exact ⟨Nat.zero_le _, fun r hr => by cases hr⟩
theorem SmL.get {B : Nat} {l : List (List C)} (h : SmL B l) (i : Nat) : SmR B (l.getD i []) := by
 rw [List.getD_eq_getElem?_getD]
 cases hi : l[i]? with
 | none => intro x hx; cases hx
 | some r => exact h.2 r (List.mem_of_getElem? hi)
theorem Eb {α : Type} {l : List α} {i : Nat} {d : α} (h : i < l.length) : l.getD i d ∈ l := by
 rw [List.getD_eq_getElem?_getD, List.getElem?_eq_getElem h]
 exact List.getElem_mem h
theorem P3 (x : C) : SizeOf.sizeOf x.rows ≤ SizeOf.sizeOf x := by
 cases x with
 | row e l => show SizeOf.sizeOf l ≤ _; simp
 | _ => show 1 ≤ _; simp; try omega
theorem Zl {i j : Nat} : ∀ {r : List C}, i < j → SizeOf.sizeOf (fc r i).rows + SizeOf.sizeOf (fc r j).rows ≤ SizeOf.sizeOf r + 1 := by
 have one : ∀ (j : Nat) (r : List C), SizeOf.sizeOf (fc r j).rows ≤ SizeOf.sizeOf r := by
  intro j
  induction j with
  | zero =>
   intro r
   cases r with
   | nil => exact Nat.le_refl _
   | cons x r => have := P3 x; show SizeOf.sizeOf x.rows ≤ _; simp; omega
  | succ j ih =>
   intro r
   cases r with
   | nil => exact ih []
   | cons x r => have := ih r; show SizeOf.sizeOf (fc r j).rows ≤ _; simp; omega
 induction i generalizing j with
 | zero =>
  intro r h
  obtain ⟨j, rfl⟩ : ∃ k, j = k + 1 := ⟨j - 1, by omega⟩
  cases r with
  | nil =>
   have := one j []
   show 1 + SizeOf.sizeOf (fc [] j).rows ≤ _
   simp at this ⊢
   omega
  | cons x r =>
   have h1 := P3 x
   have h2 := one j r
   show SizeOf.sizeOf x.rows + SizeOf.sizeOf (fc r j).rows ≤ _
   simp
   omega
 | succ i ih =>
  intro r h
  obtain ⟨j, rfl⟩ : ∃ k, j = k + 1 := ⟨j - 1, by omega⟩
  have := ih (j := j) (r := r.tail) (by omega)
  show SizeOf.sizeOf (fc r.tail i).rows + SizeOf.sizeOf (fc r.tail j).rows ≤ _
  have h2 : SizeOf.sizeOf r.tail ≤ SizeOf.sizeOf r := by cases r <;> simp
  omega
theorem Ahj {l : List (List C)} {r : List C} {i j : Nat} (h : r ∈ l) (hij : i < j) : SizeOf.sizeOf (gr r i) + SizeOf.sizeOf (gr r j) < SizeOf.sizeOf l := by
 have h1 := Zl (r := r) hij
 have h2 := List.sizeOf_lt_of_mem h
 have h3 : SizeOf.sizeOf r + 1 < SizeOf.sizeOf l := by
  cases l with
  | nil => cases h
  | cons x l =>
   rcases List.mem_cons.1 h with rfl | h
   ·have : 1 ≤ SizeOf.sizeOf l := by cases l <;> simp; omega
    simp
    omega
   ·have := List.sizeOf_lt_of_mem h
    simp
    omega
 unfold gr
 omega
end Go.Vm
namespace Go.Vm
open Go Go.RowKit
variable {P : Program} {w : World} {H : Type} {enc : TypeId × Value → H} {spare : Nat → Bool} {held : Bool} {S : List TypeId}
structure Qr {H : Type} (f : DataW H → Nat) (B : Nat) : Prop where
 str : ∀ b : List UInt8, b.length ≤ maxLen → f (.lit (.string b)) ≤ B → b.length ≤ B
 slice : ∀ el sp, el.length ≤ maxLen → f (.slice el sp) ≤ B → el.length ≤ B ∧ ∀ d, d ∈ el → f d ≤ B
 agg : ∀ l, f (.agg l) ≤ B → ∀ d, d ∈ l → f d ≤ B
theorem Wl {f : DataW H → Nat} {B : Nat} (hB : Qr f B) (hl : laidOutB P = true) (hS : O0 P S = true) : ∀ (fuel : Nat) (T : TypeId) (cs : List Value) (x : DataW H × List MemPlace) (d : Nat) (ks : List Kn), DataW.trod enc P w 0 spare held fuel T cs = some x → f x.1 ≤ B → T < P.types.size → Kj P d T = some ks → (∀ e, Kn.row e ∈ ks → e ∈ S) → ¬ Kn.fn ∈ ks →
  ∃ xs, Aq (Ae P w (fun A => A.block < w.heap.size)) xs cs ∧ xs.map C.kind = ks ∧ SmR B xs := by
 intro fuel
 induction fuel with
 | zero => intro T cs x d ks h; simp [DataW.trod] at h
 | succ n ih =>
  intro T cs x d ks h hfx hT hk hs hfn
  cases d with
  | zero => cases hk
  | succ d =>
   simp only [Kj] at hk
   split at hk
   ·rename_i k ht
    cases hk
    obtain ⟨z, rfl, _, hwf⟩ := DataW.trod_int ht h
    exact ⟨[.int k z], .cons (.int k z) .nil, rfl, fun x hx => by rw [List.mem_singleton.1 hx]; exact .int k z hwf⟩
   ·rename_i ht
    cases hk
    unfold DataW.trod at h
    rw [ht] at h
    match cs, h with
    | [.bool b], h => exact ⟨[.bool b], .cons (.bool b) .nil, rfl, fun x hx => by rw [List.mem_singleton.1 hx]; exact .bool b⟩
   ·rename_i ht
    cases hk
    obtain ⟨s, rfl, rfl, hsz⟩ := DataW.trod_string ht h
    exact ⟨[.str s], .cons (.str s) .nil, rfl, fun x hx => by
     rw [List.mem_singleton.1 hx]
     have := hB.str s.data.toList (by simpa using hsz) hfx
     exact .str s (by simpa using this)⟩
   ·rename_i e ht
    cases hk
    rcases DataW.trod_slice ht h with ⟨rfl, _⟩ | ⟨A, len, cap, elems, rest, m, hm, rfl, hx, _, hlc, hcm, hel, hat, _⟩
    ·exact ⟨[.row e []], .cons (Ae.rowNil e) .nil, rfl, fun x hx => by rw [List.mem_singleton.1 hx]; exact .row e [] (Nat.zero_le _) (fun r hr => by cases hr)⟩
    ·obtain rfl : n = m := by omega
     rw [hx] at hfx
     obtain ⟨hb1, hb2⟩ := hB.slice _ _ (by rw [List.length_map]; omega) hfx
     obtain ⟨ks, hke, hTe, hrow, hrfn⟩ := Yx hS (hs e (by simp))
     have hrows : ∀ i, i < len → ∃ r, r.map C.kind = ks ∧ SmR B r ∧ ∃ vs, w.cells? 0 (A.add (i * P.cellsOf e)) (P.cellsOf e) = some vs ∧ Aq (Ae P w (fun A => A.block < w.heap.size)) r vs := by
      intro i hi
      have h1 := hat i hi
      have h2 : elems[i]? = some elems[i] := by simp [hel, hi]
      rw [h2] at h1
      cases hc : w.cells? 0 (A.add (i * P.cellsOf e)) (P.cellsOf e) with
      | none => rw [hc] at h1; cases h1
      | some vs =>
       rw [hc] at h1
       obtain ⟨r, h3, h4, h5⟩ := ih e vs _ 6 ks h1 (hb2 _ (List.mem_map_of_mem (List.getElem_mem _))) hTe (Abg hke) hrow hrfn
       exact ⟨r, h4, h5, vs, rfl, h3⟩
     have hl2 : ∃ l : List (List C), l.length = len ∧ ∀ i r, l[i]? = some r → r.map C.kind = ks ∧ SmR B r ∧ ∃ vs, w.cells? 0 (A.add (i * P.cellsOf e)) (P.cellsOf e) = some vs ∧ Aq (Ae P w (fun A => A.block < w.heap.size)) r vs := by
      have key : ∀ j, j ≤ len → ∃ l : List (List C), l.length = j ∧ ∀ i r, l[i]? = some r → r.map C.kind = ks ∧ SmR B r ∧ ∃ vs, w.cells? 0 (A.add (i * P.cellsOf e)) (P.cellsOf e) = some vs ∧ Aq (Ae P w (fun A => A.block < w.heap.size)) r vs := by
       intro j
       induction j with
       | zero => intro _; exact ⟨[], rfl, fun i r h => by simp at h⟩
       | succ j ihj =>
        intro hj
        obtain ⟨l, h1, h2⟩ := ihj (by omega)
        obtain ⟨r, h3, h4⟩ := hrows j (by omega)
        refine ⟨l ++ [r], by simp [h1], fun i r' hi => ?_⟩
        rw [List.getElem?_append] at hi
        split at hi
        ·exact h2 i r' hi
        ·rename_i hge
         have : i = j := by
          have := (List.getElem?_eq_some_iff.1 hi).1
          simp at this
          omega
         subst this
         rw [h1] at hi
         simp at hi
         subst hi
         exact ⟨h3, h4⟩
      exact key len (Nat.le_refl _)
     obtain ⟨l, hlen, hget⟩ := hl2
     have hcell : ∀ j r o x, l[j]? = some r → r[o]? = some x → ∃ u, w.cell? (A.add (j * P.cellsOf e + o)) = some u ∧ Ae P w (fun A => A.block < w.heap.size) x u := by
      intro j r o x hj ho
      obtain ⟨_, _, vs, hvs, hall⟩ := hget j r hj
      obtain ⟨u, hu, hc⟩ := hall.get o x ho
      refine ⟨u, ?_, hc⟩
      obtain ⟨_, hvl, hvc⟩ := World.cells?_some hvs
      have ho' : o < P.cellsOf e := by
       rw [← hvl]
       exact (List.getElem?_eq_some_iff.1 hu).1
      have := hvc o ho'
      rw [Hs] at this
      rw [this]
      exact hu
     refine ⟨[.row e l], .cons ?_ .nil, rfl, fun x hx => by
      rw [List.mem_singleton.1 hx]
      refine .row e l (by rw [List.length_map] at hb1; omega) fun r hr => ?_
      obtain ⟨i, hi⟩ := List.getElem?_of_mem hr
      exact (hget i r hi).2.1⟩
     rw [← hlen]
     refine .row e l ks (some A) cap (fun j o => (w.cell? (A.add (j * P.cellsOf e + o))).getD undef) (fun _ => hke) (by omega) hcm (fun r hr => ?_) (fun _ => rfl) (fun j r o x ad hj ho hA => ?_) (fun j r o x hj ho => ?_)
     ·obtain ⟨i, hi⟩ := List.getElem?_of_mem hr
      exact (hget i r hi).1
     ·cases hA
      obtain ⟨u, hu, hc⟩ := hcell j r o x hj ho
      refine ⟨?_, by rw [hu]; rfl⟩
      exact World.block_lt_of_cell? _ _ hu
     ·obtain ⟨u, hu, hc⟩ := hcell j r o x hj ho
      rw [hu]
      exact hc
   ·cases hk
    exact absurd (List.mem_singleton.2 rfl) hfn
   ·rename_i fs ht
    obtain ⟨xs, m, hm, hx, hcl, hxl, hf⟩ := DataW.trod_struct ht h
    rw [hx] at hfx
    have hbx := hB.agg _ hfx
    obtain rfl : n = m := by omega
    obtain ⟨hty0, hsum, hoff⟩ := Abk hl hT ht
    have key : ∀ (l : List Field) (off : Nat) (ks : List Kn), (∀ i f, l[i]? = some f → f.offset = off + ((l.take i).map fun f => P.cellsOf f.type).sum) → (∀ f0, f0 ∈ l → f0.type < P.types.size ∧ ∃ y, f y.1 ≤ B ∧ DataW.trod enc P w 0 spare held n f0.type ((cs.drop f0.offset).take (P.cellsOf f0.type)) = some y) →
      l.foldr (fun f acc => match Kj P d f.type with | some a => (match acc with | some b => some (a ++ b) | none => none) | none => none) (some []) = some ks → (∀ e, Kn.row e ∈ ks → e ∈ S) → ¬ Kn.fn ∈ ks → cs.length = off + (l.map fun f => P.cellsOf f.type).sum → ∃ xs, Aq (Ae P w (fun A => A.block < w.heap.size)) xs (cs.drop off) ∧ xs.map C.kind = ks ∧ SmR B xs := by
     intro l
     induction l with
     | nil =>
      intro off ks _ _ hk _ _ hlen
      simp at hk
      subst hk
      rw [List.drop_eq_nil_of_le (by simp at hlen; omega)]
      exact ⟨[], .nil, rfl, fun x hx => by cases hx⟩
     | cons f0 l ihl =>
      intro off ks hof hty hk hs hfn hlen
      rw [List.foldr_cons] at hk
      split at hk
      ·rename_i a ha
       split at hk
       ·rename_i b hb
        cases hk
        have h0 : f0.offset = off := by simpa using hof 0 f0 rfl
        obtain ⟨hyT, y, hyf, hy⟩ := hty f0 List.mem_cons_self
        rw [h0] at hy
        obtain ⟨x1, q1, e1, s1⟩ := ih f0.type _ y d a hy hyf hyT ha (fun e he => hs e (List.mem_append_left _ he)) (fun h => hfn (List.mem_append_left _ h))
        obtain ⟨x2, q2, e2, s2⟩ := ihl (off + P.cellsOf f0.type) b (fun i g hi => by
         have := hof (i + 1) g (by simpa using hi)
         simp only [List.take_succ_cons, List.map_cons, List.sum_cons] at this
         omega) (fun g hg => hty g (List.mem_cons_of_mem _ hg)) hb (fun e he => hs e (List.mem_append_right _ he)) (fun h => hfn (List.mem_append_right _ h)) (by simp at hlen ⊢; omega)
        refine ⟨x1 ++ x2, ?_, by simp [e1, e2], fun x hx => by
         rcases List.mem_append.1 hx with hx | hx
         ·exact s1 x hx
         ·exact s2 x hx⟩
        have := q1.append q2
        rw [← List.drop_drop, List.take_append_drop] at this
        exact this
       ·cases hk
      ·cases hk
    have := key fs.toList 0 ks (fun i f hi => by rw [hoff i f hi]; omega) (fun f1 hm => by
     obtain ⟨i, hi⟩ := List.getElem?_of_mem hm
     have hi' : fs[i]? = some f1 := by simpa using hi
     have h1 := hf i f1 hi'
     have hlt : i < xs.length := by rw [hxl]; exact (Array.getElem?_eq_some_iff.1 hi').1
     rw [show xs[i]? = some xs[i] from by simp [hlt]] at h1
     exact ⟨hty0 f1 hm, _, hbx _ (List.mem_map_of_mem (List.getElem_mem _)), h1⟩) hk hs hfn (by rw [hcl, hsum]; omega)
    simpa using this
   ·cases hk
end Go.Vm
namespace Go.Vm
open Go
inductive Bq : Bool → List C → List C → Prop where
 | path {a b : List C} : gi a 0 = gi b 0 → (gr a 1).length = (gr b 1).length → (gr a 2).length = (gr b 2).length →
   (∀ i, i < (gr a 1).length → Bq true ((gr a 1).getD i []) ((gr b 1).getD i [])) → (∀ i, i < (gr a 2).length → Bq false ((gr a 2).getD i []) ((gr b 2).getD i [])) → Bq true a b
 | filter {a b : List C} : gi a 0 = gi b 0 → gs a 1 = gs b 1 → gs a 2 = gs b 2 → gs a 3 = gs b 3 → (gr a 4).length = (gr b 4).length → (gr a 5).length = (gr b 5).length →
   (∀ i, i < (gr a 4).length → Bq false ((gr a 4).getD i []) ((gr b 4).getD i [])) → (∀ i, i < (gr a 5).length → Bq true ((gr a 5).getD i []) ((gr b 5).getD i [])) → Bq false a b
theorem Bq.symm {k : Bool} {a b : List C} (h : Bq k a b) : Bq k b a := by
 induction h with
 | path h1 h2 h3 _ _ i1 i2 => exact .path h1.symm h2.symm h3.symm (fun i hi => i1 i (by omega)) (fun i hi => i2 i (by omega))
 | filter h1 h2 h3 h4 h5 h6 _ _ i1 i2 => exact .filter h1.symm h2.symm h3.symm h4.symm h5.symm h6.symm (fun i hi => i1 i (by omega)) (fun i hi => i2 i (by omega))
theorem Bq.trans {k : Bool} {a b c : List C} (h : Bq k a b) (h' : Bq k b c) : Bq k a c := by
 induction h generalizing c with
 | path h1 h2 h3 _ _ i1 i2 =>
  cases h' with
  | path g1 g2 g3 g4 g5 => exact .path (h1.trans g1) (h2.trans g2) (h3.trans g3) (fun i hi => i1 i hi (g4 i (by omega))) (fun i hi => i2 i hi (g5 i (by omega)))
 | filter h1 h2 h3 h4 h5 h6 _ _ i1 i2 =>
  cases h' with
  | filter g1 g2 g3 g4 g5 g6 g7 g8 => exact .filter (h1.trans g1) (h2.trans g2) (h3.trans g3) (h4.trans g4) (h5.trans g5) (h6.trans g6) (fun i hi => i1 i hi (g7 i (by omega))) (fun i hi => i2 i hi (g8 i (by omega)))
theorem Td (j : Nat) : ∀ (r : List C), SizeOf.sizeOf (gr r j) ≤ SizeOf.sizeOf r := by
 unfold gr
 induction j with
 | zero =>
  intro r
  cases r with
  | nil => exact Nat.le_refl _
  | cons x r => have := P3 x; show SizeOf.sizeOf x.rows ≤ _; simp; omega
 | succ j ih =>
  intro r
  cases r with
  | nil => exact ih []
  | cons x r => have := ih r; show SizeOf.sizeOf (fc r j).rows ≤ _; simp; omega
theorem Bq.refl' : ∀ (M : Nat) (k : Bool) (a : List C), SizeOf.sizeOf a < M → Bq k a a := by
 intro M
 induction M with
 | zero => intro k a h; omega
 | succ M ih =>
  intro k a h
  have key : ∀ (j i : Nat) (k : Bool), i < (gr a j).length → Bq k ((gr a j).getD i []) ((gr a j).getD i []) := fun j i k hi => ih k _ (by
   have h1 := Td j a
   have h2 := List.sizeOf_lt_of_mem (Eb (d := []) hi)
   omega)
  cases k with
  | true => exact .path rfl rfl rfl (fun i hi => key 1 i true hi) (fun i hi => key 2 i false hi)
  | false => exact .filter rfl rfl rfl rfl rfl rfl (fun i hi => key 4 i false hi) (fun i hi => key 5 i true hi)
theorem Bq.refl (k : Bool) (a : List C) : Bq k a a := Bq.refl' _ k a (Nat.lt_succ_self _)
end Go.Vm
namespace Go.Vm
open Go
mutual
def eqC : C → C → Bool
 | .int k a, .int k' b => decide (k = k') && decide (a = b)
 | .bool a, .bool b => decide (a = b)
 | .str a, .str b => decide (a.data = b.data)
 | .nil e, .nil e' => decide (e = e')
 | .row e l, .row e' l' => decide (e = e') && Hy l l'
 | .fn g, .fn g' => decide (g = g')
 | _, _ => false
def eqL : List C → List C → Bool
 | [], [] => true
 | a :: l, b :: m => eqC a b && eqL l m
 | _, _ => false
def Hy : List (List C) → List (List C) → Bool
 | [], [] => true
 | a :: l, b :: m => eqL a b && Hy l m
 | _, _ => false
end
mutual
theorem Sp : ∀ (a b : C), eqC a b = true → a = b
 | .int k a, b, h => by cases b <;> simp_all [eqC]
 | .bool a, b, h => by cases b <;> simp_all [eqC]
 | .str a, b, h => by
  cases b with
  | str b => cases a; cases b; simp_all [eqC]
  | _ => simp [eqC] at h
 | .nil e, b, h => by cases b <;> simp_all [eqC]
 | .fn e, b, h => by cases b <;> simp_all [eqC]
 | .row e l, b, h => by
  cases b with
  | row e' l' =>
   simp only [eqC, Bool.and_eq_true, decide_eq_true_eq] at h
   rw [h.1, Sq l l' h.2]
  | _ => simp [eqC] at h
theorem Ss : ∀ (a b : List C), eqL a b = true → a = b
 | [], b, h => by cases b <;> simp_all [eqL]
 | x :: l, b, h => by
  cases b with
  | nil => simp [eqL] at h
  | cons y m =>
   simp only [eqL, Bool.and_eq_true] at h
   rw [Sp x y h.1, Ss l m h.2]
theorem Sq : ∀ (a b : List (List C)), Hy a b = true → a = b
 | [], b, h => by cases b <;> simp_all [Hy]
 | x :: l, b, h => by
  cases b with
  | nil => simp [Hy] at h
  | cons y m =>
   simp only [Hy, Bool.and_eq_true] at h
   rw [Ss x y h.1, Sq l m h.2]
end
mutual
theorem Za : ∀ (a : C), eqC a a = true
 | .int k a => by simp [eqC]
 | .bool a => by simp [eqC]
 | .str a => by simp [eqC]
 | .nil e => by simp [eqC]
 | .fn e => by simp [eqC]
 | .row e l => by simp [eqC, Sr l]
theorem Su : ∀ (a : List C), eqL a a = true
 | [] => by simp [eqL]
 | x :: l => by simp [eqL, Za x, Su l]
theorem Sr : ∀ (a : List (List C)), Hy a a = true
 | [] => by simp [Hy]
 | x :: l => by simp [Hy, Su x, Sr l]
end
def eqI (a b : Int) : Bool := decide (a = b)
def Y9 (a b : Bool) : Bool := decide (a = b)
def eqS (a b : ByteArray) : Bool := decide (a.data = b.data)
def Sw {A B : Type} (f : A → A → Bool) (g : B → B → Bool) (a b : A × B) : Bool := f a.1 b.1 && g a.2 b.2
theorem Ahd : Gk eqI := fun a b h => of_decide_eq_true h
theorem Ahc : Gk Y9 := fun a b h => of_decide_eq_true h
theorem Ahf : Gk eqS := fun a b h => by cases a; cases b; simpa [eqS] using h
theorem Ahe {A B : Type} {f : A → A → Bool} {g : B → B → Bool} (hf : Gk f) (hg : Gk g) : Gk (Sw f g) := fun a b h => by
 simp only [Sw, Bool.and_eq_true] at h
 exact Prod.ext (hf _ _ h.1) (hg _ _ h.2)
theorem Tot.choice {α : Type} {eq : α → α → Bool} (he : ∀ a, eq a a = true) {g h : Nat → Nat → Nat → Option α} {Q : α → Prop} (hgh : ∀ n a b, g n a b = h n a b) (hg : Tot g Q) : Tot (fun n a b => J8 eq (g n a b) (h n a b)) Q :=
 hg.congr fun n a b => Yu he (hgh n a b)
theorem Tot.bind2 {α β : Type} {Q : α → Prop} {f : Nat → Nat → Nat → Option β} {R : β → Prop} {k : Nat → Nat → Nat → β → Option α} (h1 : Tot f R) (h2 : ∀ r, R r → Tot f (fun r' => r' = r) → Tot (fun n a b => k n a b r) Q) : Tot (fun n a b => (f n a b).bind fun r => k n a b r) Q := by
 obtain ⟨r, h3, N, h4⟩ := h1
 exact Tot.bind (R := fun r' => r' = r) ⟨r, rfl, N, h4⟩ fun r' hr => by
  subst hr
  exact h2 r' h3 ⟨r', rfl, N, h4⟩
theorem Tot.loop {α σ : Type} {H : Nat → Nat → Nat → Int → σ → Option α} {Q : α → Prop} {n : Nat} (Inv : Nat → σ → Prop) (hn : n ≤ 4611686018427387904)
  (fin : ∀ s, Inv n s → Tot (fun k a b => H k a b (n : Int) s) Q)
  (rnd : ∀ (i : Nat) s, i < n → Inv i s → (∀ s', Inv (i + 1) s' → Tot (fun k a b => H k a b (IntKind.i64.wrap ((i : Int) + 1)) s') Q) → Tot (fun k a b => H k a b (i : Int) s) Q) :
  ∀ (d i : Nat) s, n - i = d → i ≤ n → Inv i s → Tot (fun k a b => H k a b (i : Int) s) Q := by
 intro d
 induction d with
 | zero =>
  intro i s hd hi h
  obtain rfl : i = n := by omega
  exact fin s h
 | succ d ih =>
  intro i s hd hi h
  refine rnd i s (by omega) h fun s' h' => ?_
  rw [Ai (by omega) (by omega), show (i : Int) + 1 = ((i + 1 : Nat) : Int) by omega]
  exact ih (i + 1) s' (by omega) (by omega) h'
theorem Tot.every {H : Nat → Nat → Nat → Int → Option Bool} {n : Nat} {p : Nat → Prop} {R : Prop} (hn : n ≤ 4611686018427387904) (nec : R → ∀ j, j < n → p j)
  (fin : (∀ j, j < n → p j) → Tot (fun k a b => H k a b (n : Int)) (fun r => r = true ↔ R))
  (rnd : ∀ (i : Nat) (Q : Bool → Prop), i < n → (¬ p i → Q false) → (p i → Tot (fun k a b => H k a b (IntKind.i64.wrap ((i : Int) + 1))) Q) → Tot (fun k a b => H k a b (i : Int)) Q) :
  Tot (fun k a b => H k a b 0) (fun r => r = true ↔ R) :=
 Tot.loop (H := fun k a b v (_ : Unit) => H k a b v) (fun i _ => ∀ j, j < i → p j) hn (fun _ h => fin h) (fun i _ hi h next => rnd i _ hi (fun hp => ⟨fun e => (by cases e), fun hR => absurd (nec hR i hi) hp⟩) (fun hp => next () (fun j hj => by
  rcases Nat.lt_or_ge j i with h1 | h1
  ·exact h j h1
  ·rw [show j = i by omega]; exact hp))) n 0 () rfl (Nat.zero_le _) (fun j hj => by omega)
def Fst (n : Nat) (p : Nat → Prop) (r : Int) : Prop := (r = -1 ∧ ∀ j, j < n → ¬ p j) ∨ ∃ i : Nat, r = i ∧ i < n ∧ p i ∧ ∀ j, j < i → ¬ p j
theorem Tot.first {H : Nat → Nat → Nat → Int → Option Int} {n : Nat} {p : Nat → Prop} (hn : n ≤ 4611686018427387904)
  (fin : Tot (fun k a b => H k a b (n : Int)) (fun r => r = -1))
  (rnd : ∀ (i : Nat) (Q : Int → Prop), i < n → (p i → Q i) → (¬ p i → Tot (fun k a b => H k a b (IntKind.i64.wrap ((i : Int) + 1))) Q) → Tot (fun k a b => H k a b (i : Int)) Q) :
  Tot (fun k a b => H k a b 0) (Fst n p) :=
 Tot.loop (H := fun k a b v (_ : Unit) => H k a b v) (fun i _ => ∀ j, j < i → ¬ p j) hn (fun _ h => fin.mono fun r hr => .inl ⟨hr, h⟩) (fun i _ hi h next => rnd i _ hi (fun hp => .inr ⟨i, rfl, hi, hp, h⟩) (fun hp => next () (fun j hj => by
  rcases Nat.lt_or_ge j i with h1 | h1
  ·exact h j h1
  ·rw [show j = i by omega]; exact hp))) n 0 () rfl (Nat.zero_le _) (fun j hj => by omega)
theorem Fst.uniq {n : Nat} {p : Nat → Prop} {r s : Int} (h : Fst n p r) (h' : Fst n p s) : r = s := by
 rcases h with ⟨e, h⟩ | ⟨i, e, h1, h2, h3⟩ <;> rcases h' with ⟨e', h'⟩ | ⟨i', e', h1', h2', h3'⟩
 ·omega
 ·exact absurd h2' (h i' h1')
 ·exact absurd h2 (h' i h1)
 ·rcases Nat.lt_trichotomy i i' with g | g | g
  ·exact absurd h2 (h3' i g)
  ·omega
  ·exact absurd h2' (h3 i' g)
theorem Fj {a b : ByteArray} : (a.toList == b.toList) = true ↔ a = b := by
 rw [ByteArray.toList_eq, ByteArray.toList_eq]
 constructor
 ·intro h
  exact WideShapes.bytes_inj (eq_of_beq h)
 ·rintro rfl
  simp
theorem Rj {a b : ByteArray} : (a == b) = true ↔ a = b := by
 constructor
 ·intro h
  cases a with
  | mk x => cases b with
   | mk y => have h : (x == y) = true := h; rw [eq_of_beq h]
 ·rintro rfl
  cases a with
  | mk x => show (x == x) = true; simp
theorem Fx {a b c d : ByteArray} : ((a == b) && ((c == d) && true)) = true ↔ a = b ∧ c = d := by
 rw [Bool.and_eq_true, Bool.and_eq_true, Rj, Rj]
 simp
end Go.Vm
namespace Go.Vm
open Go
inductive Pc where
 | i (k : IntKind)
 | b
 | s
 | r (e : TypeId)
abbrev Pc.T : Pc → Type
 | .i _ => Int
 | .b => Bool
 | .s => ByteArray
 | .r _ => List (List C)
def Pc.dec : (c : Pc) → C → Option c.T
 | .i k, .int k' n => match decide (k = k') with
  | true => some n
  | false => none
 | .b, .bool x => some x
 | .s, .str x => some x
 | .r e, .row e' l => match Nat.beq e e' with
  | true => some l
  | false => none
 | _, _ => none
def Pc.enc : (c : Pc) → c.T → C
 | .i k, n => .int k n
 | .b, x => .bool x
 | .s, x => .str x
 | .r e, l => .row e l
theorem Pc.dec_ok : ∀ (c : Pc) (x : C) (v : c.T), c.dec x = some v → x = c.enc v := by
 intro c x v h
 cases c with
 | i k =>
  cases x with
  | int k' n =>
   have h : (match decide (k = k') with
    | true => some n
    | false => none) = some v := h
   cases hk : decide (k = k') with
   | true => rw [hk] at h; cases h; rw [of_decide_eq_true hk]; rfl
   | false => rw [hk] at h; cases h
  | _ => cases h
 | b => cases x with
  | bool x => cases h; rfl
  | _ => cases h
 | s => cases x with
  | str x => cases h; rfl
  | _ => cases h
 | r e =>
  cases x with
  | row e' l =>
   have h : (match Nat.beq e e' with
    | true => some l
    | false => none) = some v := h
   cases hk : Nat.beq e e' with
   | true => rw [hk] at h; cases h; rw [Nat.eq_of_beq_eq_true hk]; rfl
   | false => rw [hk] at h; cases h
  | _ => cases h
abbrev PT : List Pc → Type
 | [] => Unit
 | [c] => c.T
 | c :: d :: l => c.T × PT (d :: l)
def J9 : (cs : List Pc) → List C → Option (PT cs)
 | [], [] => some ()
 | [c], [x] => c.dec x
 | c :: d :: l, x :: xs => match c.dec x with
  | some v => match J9 (d :: l) xs with
   | some w => some (v, w)
   | none => none
  | none => none
 | _, _ => none
def Lr : (cs : List Pc) → PT cs → List C
 | [], _ => []
 | [c], v => [c.enc v]
 | c :: d :: l, v => c.enc v.1 :: Lr (d :: l) v.2
theorem O3 : ∀ (cs : List Pc) (xs : List C) (v : PT cs), J9 cs xs = some v → xs = Lr cs v
 | [], xs, v, h => by cases xs with
  | nil => rfl
  | cons _ _ => cases h
 | [c], xs, v, h => by
  match xs, h with
  | [x], h => rw [Pc.dec_ok c x v h]; rfl
 | c :: d :: l, xs, v, h => by
  match xs, h with
  | x :: xs, h =>
   have h : (match c.dec x with
    | some v => match J9 (d :: l) xs with
     | some w => some (v, w)
     | none => none
    | none => none) = some v := h
   cases h1 : c.dec x with
   | none => rw [h1] at h; cases h
   | some a =>
    rw [h1] at h
    cases h2 : J9 (d :: l) xs with
    | none => rw [h2] at h; cases h
    | some w =>
     rw [h2] at h
     cases h
     rw [Pc.dec_ok c x a h1, O3 (d :: l) xs w h2]
     rfl
abbrev Fn : List Pc → Type → Type
 | [], R => R
 | c :: l, R => c.T → Fn l R
def unc {R : Type} : (cs : List Pc) → Fn cs R → PT cs → R
 | [], f, _ => f
 | [_], f, v => f v
 | _ :: d :: l, f, v => unc (d :: l) (f v.1) v.2
def cur {R : Type} : (cs : List Pc) → (PT cs → R) → Fn cs R
 | [], g => g ()
 | [_], g => fun x => g x
 | _ :: d :: l, g => fun x => cur (d :: l) fun w => g (x, w)
theorem Az {R : Type} : ∀ (cs : List Pc) (g : PT cs → R) (a : PT cs), unc cs (cur cs g) a = g a
 | [], _, _ => rfl
 | [_], _, _ => rfl
 | _ :: d :: l, g, a => Az (d :: l) (fun w => g (a.1, w)) a.2
def Lt : Bool → BC → Option C
 | false, .d x => some x
 | true, .own e l => some (.row e l)
 | _, _ => none
def Mp : Bool → C → BC
 | true, .row e l => .own e l
 | _, x => .d x
theorem S2 : ∀ (o : Bool) (b : BC) (x : C), Lt o b = some x → Mp o x = b := by
 intro o b x h
 cases o <;> cases b <;> cases h <;> rfl
def Is : List Bool → List BC → Option (List C)
 | [], [] => some []
 | o :: os, b :: bs => match Lt o b with
  | some x => match Is os bs with
   | some xs => some (x :: xs)
   | none => none
  | none => none
 | _, _ => none
def Ib : List Bool → List C → List BC
 | o :: os, x :: xs => Mp o x :: Ib os xs
 | _, _ => []
theorem O7 : ∀ (os : List Bool) (bs : List BC) (xs : List C), Is os bs = some xs → xs.length = os.length ∧ ∀ ys, Ib os (xs ++ ys) = bs := by
 intro os
 induction os with
 | nil =>
  intro bs xs h
  cases bs with
  | nil => cases h; exact ⟨rfl, fun _ => rfl⟩
  | cons _ _ => cases h
 | cons o os ih =>
  intro bs xs h
  cases bs with
  | nil => cases h
  | cons b bs =>
   unfold Is at h
   cases h1 : Lt o b with
   | none => rw [h1] at h; cases h
   | some x =>
    rw [h1] at h
    cases h2 : Is os bs with
    | none => rw [h2] at h; cases h
    | some ys =>
     rw [h2] at h
     cases h
     obtain ⟨a, c⟩ := ih bs ys h2
     refine ⟨by simp [a], fun zs => ?_⟩
     show Mp o x :: Ib os (ys ++ zs) = _
     rw [S2 o b x h1, c]
inductive Sk where
 | one
 | agg (n : Nat)
 | ref (t : TypeId) (o : List Bool) (off : Nat)
 | rop (e : TypeId) (n off : Nat)
 | fn (g : FuncId)
 | fnr (g : FuncId) (fst : Bool) (e : TypeId) (n off : Nat)
 | mv
 | cst (x : C)
def Li : List SV → Option (List C)
 | [] => some []
 | .c x :: l => match Li l with
  | some xs => some (x :: xs)
  | none => none
 | _ => none
theorem Xb : ∀ (l : List SV) (xs : List C), Li l = some xs → l = xs.map .c := by
 intro l
 induction l with
 | nil => intro xs h; cases h; rfl
 | cons v l ih =>
  intro xs h
  cases v with
  | c x =>
   unfold Li at h
   cases h1 : Li l with
   | none => rw [h1] at h; cases h
   | some ys => rw [h1] at h; cases h; rw [ih ys h1]; rfl
  | _ => cases h
def flA : Sk → Arg → Option (List C)
 | .one, .v (.one (.c x)) => some [x]
 | .agg n, .v (.agg l) => match Li l with
  | some xs => match Nat.beq n xs.length with
   | true => some xs
   | false => none
  | none => none
 | .ref t o off, .ref t' l off' => match Nat.beq t t' && Nat.beq off off' with
  | true => Is o l
  | false => none
 | .rop e n off, .rop e' l off' => match Nat.beq e e' && (Nat.beq off off' && Nat.beq n l.length) with
  | true => some l
  | false => none
 | .fn g, .fn g' => match Nat.beq g g' with
  | true => some []
  | false => none
 | .fnr g fs e n off, .fnr g' fs' e' l off' => match Nat.beq g g' && (Nat.beq e e' && (Nat.beq off off' && (Nat.beq n l.length && (fs == fs')))) with
  | true => some l
  | false => none
 | .mv, .mv e l => some [.row e l]
 | .cst x, .v (.one (.c y)) => match eqC x y with
  | true => some []
  | false => none
 | _, _ => none
def unA : Sk → List C → Arg
 | .one, x :: _ => .v (.one (.c x))
 | .agg n, l => .v (.agg ((l.take n).map .c))
 | .ref t o off, l => .ref t (Ib o l) off
 | .rop e n off, l => .rop e (l.take n) off
 | .fn g, _ => .fn g
 | .fnr g fs e n off, l => .fnr g fs e (l.take n) off
 | .mv, .row e l :: _ => .mv e l
 | .cst x, _ => .v (.one (.c x))
 | _, _ => .fn 0
def nA : Sk → Nat
 | .one => 1
 | .agg n => n
 | .ref _ o _ => o.length
 | .rop _ n _ => n
 | .fn _ => 0
 | .fnr _ _ _ n _ => n
 | .mv => 1
 | .cst _ => 0
theorem Zz (sk : Sk) (a : Arg) (xs : List C) (h : flA sk a = some xs) : xs.length = nA sk ∧ ∀ ys, unA sk (xs ++ ys) = a := by
 unfold flA at h
 split at h
 ·cases h; exact ⟨rfl, fun _ => rfl⟩
 ·rename_i n l
  split at h
  ·rename_i zs hz
   split at h
   ·rename_i hn
    cases h
    have hn := Nat.eq_of_beq_eq_true hn
    refine ⟨hn.symm, fun ys => ?_⟩
    show Arg.v (.agg (((xs ++ ys).take n).map .c)) = _
    rw [hn, List.take_left, Xb l xs hz]
   ·cases h
  ·cases h
 ·rename_i t o off t' l off'
  split at h
  ·rename_i hb
   rw [Bool.and_eq_true] at hb
   obtain ⟨h1, h2⟩ := O7 o l xs h
   refine ⟨h1, fun ys => ?_⟩
   show Arg.ref t (Ib o (xs ++ ys)) off = _
   rw [h2, Nat.eq_of_beq_eq_true hb.1, Nat.eq_of_beq_eq_true hb.2]
  ·cases h
 ·rename_i e n off e' l off'
  split at h
  ·rename_i hb
   rw [Bool.and_eq_true, Bool.and_eq_true] at hb
   cases h
   have hn := Nat.eq_of_beq_eq_true hb.2.2
   refine ⟨hn.symm, fun ys => ?_⟩
   show Arg.rop e ((xs ++ ys).take n) off = _
   rw [hn, List.take_left, Nat.eq_of_beq_eq_true hb.1, Nat.eq_of_beq_eq_true hb.2.1]
  ·cases h
 ·rename_i g g'
  split at h
  ·rename_i hb
   cases h
   exact ⟨rfl, fun _ => by show Arg.fn g = _; rw [Nat.eq_of_beq_eq_true hb]⟩
  ·cases h
 ·rename_i g fs e n off g' fs' e' l off'
  split at h
  ·rename_i hb
   rw [Bool.and_eq_true, Bool.and_eq_true, Bool.and_eq_true, Bool.and_eq_true] at hb
   cases h
   have hn := Nat.eq_of_beq_eq_true hb.2.2.2.1
   refine ⟨hn.symm, fun ys => ?_⟩
   show Arg.fnr g fs e ((xs ++ ys).take n) off = _
   rw [hn, List.take_left, Nat.eq_of_beq_eq_true hb.1, Nat.eq_of_beq_eq_true hb.2.1, Nat.eq_of_beq_eq_true hb.2.2.1, eq_of_beq hb.2.2.2.2]
  ·cases h
 ·cases h; exact ⟨rfl, fun _ => rfl⟩
 ·rename_i x y
  split at h
  ·rename_i hb
   cases h
   exact ⟨rfl, fun _ => by show Arg.v (.one (.c x)) = _; rw [Sp x y hb]⟩
  ·cases h
 ·cases h
def Ka : List Sk → List Arg → Option (List C)
 | [], [] => some []
 | k :: ks, a :: l => match flA k a with
  | some xs => match Ka ks l with
   | some ys => some (xs ++ ys)
   | none => none
  | none => none
 | _, _ => none
def Oc : List Sk → List C → List Arg
 | [], _ => []
 | k :: ks, l => unA k l :: Oc ks (l.drop (nA k))
theorem Z4 : ∀ (ks : List Sk) (l : List Arg) (xs : List C), Ka ks l = some xs → Oc ks xs = l := by
 intro ks
 induction ks with
 | nil =>
  intro l xs h
  cases l with
  | nil => cases h; rfl
  | cons _ _ => cases h
 | cons k ks ih =>
  intro l xs h
  cases l with
  | nil => cases h
  | cons a l =>
   unfold Ka at h
   cases h1 : flA k a with
   | none => rw [h1] at h; cases h
   | some ys =>
    rw [h1] at h
    cases h2 : Ka ks l with
    | none => rw [h2] at h; cases h
    | some zs =>
     rw [h2] at h
     cases h
     obtain ⟨a1, a2⟩ := Zz k a ys h1
     show unA k (ys ++ zs) :: Oc ks ((ys ++ zs).drop (nA k)) = _
     rw [a2, ← a1, List.drop_left, ih l zs h2]
def da (ks : List Sk) (cs : List Pc) (l : List Arg) : Option (PT cs) := match Ka ks l with
 | some xs => J9 cs xs
 | none => none
def ea (ks : List Sk) (cs : List Pc) (v : PT cs) : List Arg := Oc ks (Lr cs v)
theorem A0 (ks : List Sk) (cs : List Pc) (l : List Arg) (v : PT cs) (h : da ks cs l = some v) : l = ea ks cs v := by
 unfold da at h
 cases h1 : Ka ks l with
 | none => rw [h1] at h; cases h
 | some xs =>
  rw [h1] at h
  unfold ea
  rw [← O3 cs xs v h]
  exact (Z4 ks l xs h1).symm
inductive R1 where
 | one (o : Bool)
 | agg (l : List Bool)
inductive Rk where
 | t (x : R1)
 | tup (l : List R1)
def fl1 : R1 → BT → Option (List C)
 | .one o, .one b => match Lt o b with
  | some x => some [x]
  | none => none
 | .agg l, .agg bs => Is l bs
 | _, _ => none
def un1 : R1 → List C → BT
 | .one o, x :: _ => .one (Mp o x)
 | .agg l, xs => .agg (Ib l xs)
 | _, _ => .tup []
def n1 : R1 → Nat
 | .one _ => 1
 | .agg l => l.length
theorem S1 (k : R1) (b : BT) (xs : List C) (h : fl1 k b = some xs) : xs.length = n1 k ∧ ∀ ys, un1 k (xs ++ ys) = b := by
 unfold fl1 at h
 split at h
 ·rename_i o b
  cases h1 : Lt o b with
  | none => rw [h1] at h; cases h
  | some x =>
   rw [h1] at h
   cases h
   exact ⟨rfl, fun ys => by show BT.one (Mp o x) = _; rw [S2 o b x h1]⟩
 ·rename_i l bs
  obtain ⟨a, c⟩ := O7 l bs xs h
  exact ⟨a, fun ys => by show BT.agg (Ib l (xs ++ ys)) = _; rw [c]⟩
 ·cases h
def fls : List R1 → List BT → Option (List C)
 | [], [] => some []
 | k :: ks, b :: bs => match fl1 k b with
  | some xs => match fls ks bs with
   | some ys => some (xs ++ ys)
   | none => none
  | none => none
 | _, _ => none
def uns : List R1 → List C → List BT
 | [], _ => []
 | k :: ks, l => un1 k l :: uns ks (l.drop (n1 k))
def ns : List R1 → Nat
 | [] => 0
 | k :: ks => n1 k + ns ks
theorem Aaa : ∀ (ks : List R1) (l : List BT) (xs : List C), fls ks l = some xs → xs.length = ns ks ∧ ∀ ys, uns ks (xs ++ ys) = l := by
 intro ks
 induction ks with
 | nil =>
  intro l xs h
  cases l with
  | nil => cases h; exact ⟨rfl, fun _ => rfl⟩
  | cons _ _ => cases h
 | cons k ks ih =>
  intro l xs h
  cases l with
  | nil => cases h
  | cons a l =>
   unfold fls at h
   cases h1 : fl1 k a with
   | none => rw [h1] at h; cases h
   | some ys =>
    rw [h1] at h
    cases h2 : fls ks l with
    | none => rw [h2] at h; cases h
    | some zs =>
     rw [h2] at h
     cases h
     obtain ⟨a1, a2⟩ := S1 k a ys h1
     obtain ⟨c1, c2⟩ := ih l zs h2
     refine ⟨by rw [List.length_append, a1, c1]; rfl, fun ws => ?_⟩
     show un1 k ((ys ++ zs) ++ ws) :: uns ks (((ys ++ zs) ++ ws).drop (n1 k)) = _
     rw [List.append_assoc, a2, ← a1, List.drop_left, c2]
def flR : Rk → BT → Option (List C)
 | .t k, b => fl1 k b
 | .tup ks, .tup l => fls ks l
 | _, _ => none
def unR : Rk → List C → BT
 | .t k, l => un1 k l
 | .tup ks, l => .tup (uns ks l)
def nR : Rk → Nat
 | .t k => n1 k
 | .tup ks => ns ks
theorem Z5 (k : Rk) (b : BT) (xs : List C) (h : flR k b = some xs) : xs.length = nR k ∧ ∀ ys, unR k (xs ++ ys) = b := by
 unfold flR at h
 split at h
 ·exact S1 _ _ _ h
 ·rename_i ks l
  obtain ⟨a, c⟩ := Aaa ks l xs h
  exact ⟨a, fun ys => by show BT.tup (uns ks (xs ++ ys)) = _; rw [c]⟩
 ·cases h
def Kb : List (List Bool) → List (List BC) → Option (List C)
 | [], [] => some []
 | k :: ks, b :: bs => match Is k b with
  | some xs => match Kb ks bs with
   | some ys => some (xs ++ ys)
   | none => none
  | none => none
 | _, _ => none
def Od : List (List Bool) → List C → List (List BC)
 | [], _ => []
 | k :: ks, l => Ib k l :: Od ks (l.drop k.length)
theorem Z6 : ∀ (ks : List (List Bool)) (l : List (List BC)) (xs : List C), Kb ks l = some xs → Od ks xs = l := by
 intro ks
 induction ks with
 | nil =>
  intro l xs h
  cases l with
  | nil => cases h; rfl
  | cons _ _ => cases h
 | cons k ks ih =>
  intro l xs h
  cases l with
  | nil => cases h
  | cons a l =>
   unfold Kb at h
   cases h1 : Is k a with
   | none => rw [h1] at h; cases h
   | some ys =>
    rw [h1] at h
    cases h2 : Kb ks l with
    | none => rw [h2] at h; cases h
    | some zs =>
     rw [h2] at h
     cases h
     obtain ⟨a1, a2⟩ := O7 k a ys h1
     show Ib k (ys ++ zs) :: Od ks ((ys ++ zs).drop k.length) = _
     rw [a2, ← a1, List.drop_left, ih l zs h2]
def dr (k : Rk) (ks : List (List Bool)) (cs : List Pc) (R : Res) : Option (PT cs) := match flR k R.r with
 | some xs => match Kb ks R.refs with
  | some ys => J9 cs (xs ++ ys)
  | none => none
 | none => none
def er (k : Rk) (ks : List (List Bool)) (cs : List Pc) (v : PT cs) : Res := ⟨unR k (Lr cs v), Od ks ((Lr cs v).drop (nR k))⟩
theorem Ad (k : Rk) (ks : List (List Bool)) (cs : List Pc) (R : Res) (v : PT cs) (h : dr k ks cs R = some v) : R = er k ks cs v := by
 unfold dr at h
 cases h1 : flR k R.r with
 | none => rw [h1] at h; cases h
 | some xs =>
  rw [h1] at h
  cases h2 : Kb ks R.refs with
  | none => rw [h2] at h; cases h
  | some ys =>
   rw [h2] at h
   have h3 := O3 cs _ v h
   obtain ⟨a, c⟩ := Z5 k R.r xs h1
   unfold er
   rw [← h3, c, ← a, List.drop_left, Z6 ks _ ys h2]
end Go.Vm
