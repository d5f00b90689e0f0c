/- A machine of values: what it makes, and calls. -/
import Derived.Test.YtkdlhnmidbnpkaaVmOne
import Derived.Laws.Append
import Derived.Laws.MakeOwn
import Derived.Laws.Cover4
import Derived.Laws.IdiomStrings
import Derived.Lib.ConvBytes
import Derived.Lib.OthersKept
import Derived.MapFrom
import Derived.Conc.Own4
set_option linter.unusedVariables false
set_option linter.unusedSimpArgs false
namespace Go.Vm
open Go
variable {P : Program} {W0 W W' : World} {M U U' : Nat → Prop} {st : St} {E E' : Env} {Z Z' : Addr → Prop} {a : Act} {ob ob' : List (Nat × Ob)} {o : Oper} {u : Up} {tv : TV} {id : Nat}
theorem Kk {t : TypeId} {ks : List Kn} (h : Dy P t = some ks) : ks.length = P.cellsOf t := by
 unfold Dy at h
 split at h
 ·split at h
  ·cases h
   exact Nat.eq_of_beq_eq_true (by assumption)
  ·cases h
 ·cases h
theorem H8 {e : TypeId} {ks : List Kn} {r : List C} (h : Dy P e = some ks) (hr : r.map C.kind = ks) : r.length = P.cellsOf e := by
 rw [← Kk h, ← hr]
 simp
def ZL (P : Program) (Z : Addr → Prop) (E : Env) (ob : List (Nat × Ob)) (ids : List Nat) : Addr → Prop := fun k => Z k ∨ ∃ i, i ∈ ids ∧ ∃ e f rows, Aa ob i = some (.arr e f rows) ∧ FC P E i e rows.length k
theorem Qe (R : Rel P W0 M U st E Z a W) {i lo n : Nat} {e : TypeId} {f : Bool} {rows : List (List C)} {v : Value} (hl : Aa st.ob i = some (.arr e f rows)) (hlo : lo + n ≤ rows.length) (hs : Slc (E.row i) (E.cap i) (P.cellsOf e) lo n v) :
  Ae P W (ZL P Z E st.ob [i]) (.row e ((rows.drop lo).take n)) v := by
 obtain ⟨h1, A, rfl, h2⟩ := hs
 obtain ⟨r1, r2, ks, r3, r4, r5, r6⟩ := R.ob i _ hl
 have hlen : ((rows.drop lo).take n).length = n := by simp; omega
 have hget : ∀ j r, ((rows.drop lo).take n)[j]? = some r → rows[lo + j]? = some r ∧ j < n := by
  intro j r hj
  have hjn : j < n := by
   have := (List.getElem?_eq_some_iff.1 hj).1
   omega
  rw [List.getElem?_take, if_pos hjn, List.getElem?_drop] at hj
  exact ⟨hj, hjn⟩
 by_cases hc : 0 < E.cap i
 ·obtain ⟨g, off, cur, h3, h4, h5, h6⟩ := r6 hc
  have key := Ae.row (P := P) (W := W) (Z := ZL P Z E st.ob [i]) e ((rows.drop lo).take n) ks A (E.cap i - lo) (fun j o => cur.getD (off + (lo + j) * P.cellsOf e + o) undef)
   (fun _ => r3) (by rw [hlen]; omega) (by omega) (fun r hr => r5 r (List.mem_of_mem_drop (List.mem_of_mem_take hr)))
   (fun hne => by
    have : 0 < n := by
     rcases Nat.eq_zero_or_pos n with h | h
     ·exact absurd (by rw [h]; simp) hne
     ·exact h
    obtain ⟨_, _, _, h7⟩ := h2 (by omega)
    rw [h7]
    rfl)
   (fun j r o x ad hj hr hA => by
    obtain ⟨hj', hjn⟩ := hget j r hj
    obtain ⟨g', off', h7, h8⟩ := h2 (by omega)
    rw [h3] at h7
    cases h7
    rw [h8] at hA
    cases hA
    obtain ⟨u, h9, h10⟩ := h6 _ r o x hj' hr
    have e1 : off + lo * P.cellsOf e + (j * P.cellsOf e + o) = off + (lo + j) * P.cellsOf e + o := by rw [Nat.add_mul]; omega
    have e2 := H8 r3 (r5 r (List.mem_of_getElem? hj'))
    have e3 := (List.getElem?_eq_some_iff.1 hr).1
    have e4 := (List.getElem?_eq_some_iff.1 hj').1
    have e5 : (lo + j) * P.cellsOf e + o < rows.length * P.cellsOf e := by
     have := Nat.mul_le_mul_right (P.cellsOf e) (show lo + j + 1 ≤ rows.length by omega)
     rw [Nat.add_mul _ 1] at this
     omega
    rw [E9, e1]
    refine ⟨.inr ⟨i, List.mem_singleton.2 rfl, _, _, _, hl, hc, g, off, h3, rfl, rfl, by show off ≤ off + (lo + j) * P.cellsOf e + o; omega, by show off + (lo + j) * P.cellsOf e + o < _; omega⟩, ?_⟩
    rw [Io h4, h9]
    simp [Array.getD_eq_getD_getElem?, h9])
   (fun j r o x hj hr => by
    obtain ⟨hj', hjn⟩ := hget j r hj
    obtain ⟨u, h9, h10⟩ := h6 _ r o x hj' hr
    have : cur.getD (off + (lo + j) * P.cellsOf e + o) undef = u := by simp [Array.getD_eq_getD_getElem?, h9]
    rw [this]
    exact h10.mono (fun _ _ => rfl) (fun _ h => .inl h))
  rw [hlen] at key
  exact key
 ·have hn : n = 0 := by omega
  subst hn
  have e0 : (rows.drop lo).take 0 = [] := by simp
  rw [e0]
  have key := Ae.row (P := P) (W := W) (Z := ZL P Z E st.ob [i]) e [] ks A (E.cap i - lo) (fun _ _ => undef) (fun _ => r3) (Nat.zero_le _) (by omega) (fun r h => by cases h) (fun h => absurd rfl h) (fun j r o x ad h => by simp at h) (fun j r o x h => by simp at h)
  exact key
theorem ZL.mono {ids ids' : List Nat} (h : ∀ i, i ∈ ids → i ∈ ids') : ∀ k, ZL P Z E ob ids k → ZL P Z E ob ids' k := by
 rintro k (h1 | ⟨i, h1, h2⟩)
 ·exact .inl h1
 ·exact .inr ⟨i, h i h1, h2⟩
theorem J2 (R : Rel P W0 M U st E Z a W) {v : SV} {x : C} {w : Value} (hv : Cs P W Z U E st.ob v w) (h : st.toC v = some x) : Ae P W (ZL P Z E st.ob v.ids) x w := by
 cases v with
 | c y =>
  simp only [St.toC, Option.some.injEq] at h
  subst h
  exact Ae.mono (show Ae P W Z y w from hv) (fun _ _ => rfl) (fun _ h => .inl h)
 | arr i =>
  simp only [St.toC] at h
  split at h
  ·rename_i e f rows hl
   cases h
   have := Qe R (lo := 0) (n := rows.length) hl (by omega) (hv.2.2 e f rows hl)
   simpa [SV.ids] using this
  ·cases h
 | sub i lo n =>
  simp only [St.toC] at h
  split at h
  ·rename_i e f rows hl
   cases h
   obtain ⟨h1, h2⟩ := hv.2.2 e f rows hl
   exact Qe R hl h1 h2
  ·cases h
 | ptr i off => simp [St.toC] at h
 | ept i r off => simp [St.toC] at h
 | rop e l off => simp [St.toC] at h
theorem N8 (R : Rel P W0 M U st E Z a W) : ∀ {l : List SV} {cs : List C} {us : List Value}, Aq (Cs P W Z U E st.ob) l us → st.toCs l = some cs → Aq (Ae P W (ZL P Z E st.ob (Cy l))) cs us := by
 intro l
 induction l with
 | nil => intro cs us h hc; cases h; simp [St.toCs] at hc; subst hc; exact .nil
 | cons v l ih =>
  intro cs us h hc
  cases h with
  | cons h1 h2 =>
   simp only [St.toCs] at hc
   split at hc
   ·rename_i x hx
    split at hc
    ·rename_i cs' hcs
     cases hc
     refine .cons ((J2 R h1 hx).mono (fun _ _ => rfl) (ZL.mono fun i hi => by simp [Cy, hi])) ((ih h2 hcs).imp fun _ _ _ h => h.mono (fun _ _ => rfl) (ZL.mono fun i hi => by simp [Cy, hi]))
    ·cases hc
   ·cases hc
theorem Rel.freezeAll : ∀ {ids : List Nat} {ob : List (Nat × Ob)} {Z : Addr → Prop} (R : Rel P W0 M U ⟨st.tm, ob, st.base, st.nt⟩ E Z a W) (hsame : ∀ i e f rows, Aa st.ob i = some (.arr e f rows) → i ∈ ids → ∃ f', Aa ob i = some (.arr e f' rows)),
  Rel P W0 M U ⟨st.tm, Am ob (st.freeze ids), st.base, st.nt⟩ E (fun k => Z k ∨ ∃ i, i ∈ ids ∧ ∃ e f rows, Aa st.ob i = some (.arr e f rows) ∧ FC P E i e rows.length k) a W := by
 intro ids
 induction ids with
 | nil =>
  intro ob Z R _
  have K : Eh W W Z (fun k => Z k ∨ ∃ i, i ∈ [] ∧ ∃ e f rows, Aa st.ob i = some (.arr e f rows) ∧ FC P E i e rows.length k) U U E E ob ob := ⟨fun _ h => .inl h, fun _ h => h, fun _ _ => rfl, fun _ _ _ _ => ⟨rfl, rfl, rfl⟩, fun j o _ h => ⟨o, h, D9.refl o⟩⟩
  have e0 : (fun k => Z k ∨ ∃ i, i ∈ ([] : List Nat) ∧ ∃ e f rows, Aa st.ob i = some (.arr e f rows) ∧ FC P E i e rows.length k) = Z := by
   funext k
   simp
  rw [e0]
  exact R
 | cons i ids ih =>
  intro ob Z R hsame
  simp only [St.freeze]
  split
  ·rename_i e f rows hl
   obtain ⟨f', hl'⟩ := hsame i e f rows hl List.mem_cons_self
   have R1 := R.freeze1 hl'
   have R2 := ih (ob := put ob i (.arr e true rows)) R1 (fun j e' f'' rows' hj hm => by
    rw [D8]
    by_cases hji : j = i
    ·subst hji
     rw [hl] at hj
     cases hj
     exact ⟨true, by simp⟩
    ·rw [if_neg hji]
     exact hsame j e' f'' rows' hj (List.mem_cons_of_mem _ hm))
   have e0 : (fun k => Z k ∨ ∃ j, j ∈ i :: ids ∧ ∃ e f rows, Aa st.ob j = some (.arr e f rows) ∧ FC P E j e rows.length k) = fun k => (Z k ∨ FC P E i e rows.length k) ∨ ∃ j, j ∈ ids ∧ ∃ e f rows, Aa st.ob j = some (.arr e f rows) ∧ FC P E j e rows.length k := by
    funext k
    apply propext
    constructor
    ·rintro (h | ⟨j, hj, e', f'', rows', h1, h2⟩)
     ·exact .inl (.inl h)
     ·rcases List.mem_cons.1 hj with rfl | hj
      ·rw [hl] at h1
       cases h1
       exact .inl (.inr h2)
      ·exact .inr ⟨j, hj, e', f'', rows', h1, h2⟩
    ·rintro ((h | h) | ⟨j, hj, h⟩)
     ·exact .inl h
     ·exact .inr ⟨i, List.mem_cons_self, e, f, rows, hl, h⟩
     ·exact .inr ⟨j, List.mem_cons_of_mem _ hj, h⟩
   rw [e0]
   exact R2
  ·rename_i hno
   have R2 := ih R (fun j e' f'' rows' hj hm => hsame j e' f'' rows' hj (List.mem_cons_of_mem _ hm))
   have e0 : (fun k => Z k ∨ ∃ j, j ∈ i :: ids ∧ ∃ e f rows, Aa st.ob j = some (.arr e f rows) ∧ FC P E j e rows.length k) = fun k => Z k ∨ ∃ j, j ∈ ids ∧ ∃ e f rows, Aa st.ob j = some (.arr e f rows) ∧ FC P E j e rows.length k := by
    funext k
    apply propext
    constructor
    ·rintro (h | ⟨j, hj, e', f'', rows', h1, h2⟩)
     ·exact .inl h
     ·rcases List.mem_cons.1 hj with rfl | hj
      ·exact absurd h1 (hno e' f'' rows')
      ·exact .inr ⟨j, hj, e', f'', rows', h1, h2⟩
    ·rintro (h | ⟨j, hj, h⟩)
     ·exact .inl h
     ·exact .inr ⟨j, List.mem_cons_of_mem _ hj, h⟩
   rw [e0]
   exact R2
end Go.Vm
namespace Go.Vm
open Go
variable {P : Program} {W0 W W' : World} {M U U' : Nat → Prop} {st : St} {E E' : Env} {Z Z' : Addr → Prop} {a : Act} {ob ob' : List (Nat × Ob)} {o : Oper} {u : Up} {tv : TV} {id : Nat}
theorem Hl (l : List (Nat × Ob)) : ∀ (m n : List (Nat × Option Ob)), Am l (m ++ n) = Am (Am l m) n := by
 intro m
 induction m generalizing l with
 | nil => intro n; rfl
 | cons p m ih =>
  intro n
  obtain ⟨i, x⟩ := p
  cases x <;> exact ih _ n
def Fl (P : Program) (W : World) (Z : Addr → Prop) (sz : Nat) (rows : List (List C)) (cur : List Value) : Prop :=
 rows.length * sz ≤ cur.length ∧ (∀ r, r ∈ rows → r.length = sz) ∧ ∀ j r o x, rows[j]? = some r → r[o]? = some x → ∃ u, cur[j * sz + o]? = some u ∧ Ae P W Z x u
theorem L1 {j n sz o : Nat} (hj : j < n) (ho : o < sz) : j * sz + o < n * sz := by
 have : (j + 1) * sz ≤ n * sz := Nat.mul_le_mul_right _ hj
 rw [Nat.add_mul] at this
 omega
theorem Fl.set {sz : Nat} {rows : List (List C)} {cur : List Value} (h : Fl P W Z sz rows cur) {cs : List C} {us : List Value} (hcs : Aq (Ae P W Z) cs us) (hl : cs.length = sz) {j : Nat} (hj : j < rows.length) :
  Fl P W Z sz (rows.set j cs) (cur.take (j * sz) ++ us ++ cur.drop (j * sz + us.length)) := by
 obtain ⟨h1, h2, h3⟩ := h
 have hul := hcs.length
 have hb : j * sz + sz ≤ rows.length * sz := by
  have : (j + 1) * sz ≤ rows.length * sz := Nat.mul_le_mul_right _ hj
  rw [Nat.add_mul] at this
  omega
 have htk : (cur.take (j * sz)).length = j * sz := by simp; omega
 refine ⟨by simp; omega, fun r hr => ?_, fun k r o x hk hr => ?_⟩
 ·rcases List.mem_or_eq_of_mem_set hr with h | h
  ·exact h2 r h
  ·rw [h]; exact hl
 ·rw [List.getElem?_set] at hk
  by_cases hjk : j = k
  ·subst hjk
   rw [if_pos rfl, if_pos hj] at hk
   cases hk
   obtain ⟨u, h4, h5⟩ := hcs.get o x hr
   have ho : o < us.length := (List.getElem?_eq_some_iff.1 h4).1
   refine ⟨u, ?_, h5⟩
   rw [List.getElem?_append_left (by simp; omega), List.getElem?_append_right (by omega), htk, Nat.add_sub_cancel_left]
   exact h4
  ·rw [if_neg hjk] at hk
   obtain ⟨u, h4, h5⟩ := h3 k r o x hk hr
   have ho : o < sz := by rw [← h2 r (List.mem_of_getElem? hk)]; exact (List.getElem?_eq_some_iff.1 hr).1
   refine ⟨u, ?_, h5⟩
   rcases Nat.lt_or_gt_of_ne hjk with hlt | hlt
   ·have : (j + 1) * sz ≤ k * sz := Nat.mul_le_mul_right _ hlt
    rw [Nat.add_mul] at this
    rw [List.getElem?_append_right (by simp; omega), List.getElem?_drop]
    have e : j * sz + us.length + (k * sz + o - (cur.take (j * sz) ++ us).length) = k * sz + o := by simp; omega
    rw [e]
    exact h4
   ·have := L1 hlt ho
    rw [List.append_assoc, List.getElem?_append_left (by omega), List.getElem?_take, if_pos (by omega)]
    exact h4
theorem Fl.mono {sz : Nat} {rows : List (List C)} {cur : List Value} (h : Fl P W Z sz rows cur) (hW : ∀ A, Z A → W'.cell? A = W.cell? A) (hZ : ∀ k, Z k → Z' k) : Fl P W' Z' sz rows cur :=
 ⟨h.1, h.2.1, fun j r o x hj hr => by obtain ⟨u, h1, h2⟩ := h.2.2 j r o x hj hr; exact ⟨u, h1, h2.mono hW hZ⟩⟩
theorem Rel.newRow (R : Rel P W0 M U st E Z a W) {e : TypeId} {rows : List (List C)} {cap : Nat} {cur : Array Value} {ks : List Kn} (hi : ¬ U id) (hks : Dy P e = some ks) (hp : P.cellsOf e ≠ 0) (hk : ∀ r, r ∈ rows → r.map C.kind = ks) (hcap : rows.length ≤ cap) (hmax : cap ≤ maxLen)
  (hsz : cap * P.cellsOf e ≤ cur.size) (hf : Fl P W Z (P.cellsOf e) rows cur.toList) :
  Rel P W0 M (fun j => U j ∨ j = id) ⟨st.tm, put st.ob id (.arr e false rows), st.base, st.nt⟩ (E.setRow id (some (W.heap.size, 0)) cap) Z a (W.alloc (.cells cur e)) := by
 obtain ⟨h1, h2, h3, _⟩ := Ij W (.cells cur e)
 have R2 := R.alloc (.cells cur e)
 have hE : ∀ j, j ≠ id → (E.setRow id (some (W.heap.size, 0)) cap).box j = E.box j ∧ (E.setRow id (some (W.heap.size, 0)) cap).row j = E.row j ∧ (E.setRow id (some (W.heap.size, 0)) cap).cap j = E.cap j := fun j hj => ⟨rfl, by simp [Env.setRow, hj], by simp [Env.setRow, hj]⟩
 refine R2.add hi hE ?_ (fun e' rows' h => by cases h) (fun g hg => ?_)
 ·show Em P _ Z e rows ((E.setRow id (some (W.heap.size, 0)) cap).row id) ((E.setRow id (some (W.heap.size, 0)) cap).cap id)
  simp only [Env.setRow, if_true]
  refine ⟨hcap, hmax, ks, hks, by omega, hk, fun _ => ⟨W.heap.size, 0, cur, rfl, h2, by omega, fun j r o x hj hr => ?_⟩⟩
  obtain ⟨u, h4, h5⟩ := hf.2.2 j r o x hj hr
  exact ⟨u, by simpa using h4, h5.mono (fun A hA => Gp (h1 _ (R.zlt A hA))) (fun _ h => h)⟩
 ·simp only [Aw, Env.setRow, if_true, Option.map_some] at hg
  split at hg
  ·cases hg
   refine ⟨fun A hz e => by have := R.zlt A hz; omega, .inr R.size, fun j p hj hb => Nat.lt_irrefl _ (R.lt hj hb)⟩
  ·cases hg
theorem Hd {f : Bool} {W1 : World} {rows : List (List C)} {e : TypeId} {cap : Nat} {obs : List (Nat × Option Ob)} {rd : List Nat} {r : Next} {v : Value} (hr : (execOp a.eval o).run P W = .ok (.value v) W1)
  (R : Rel P W0 M (fun j => U j ∨ j = id) ⟨st.tm, Am st.ob obs, st.base, st.nt⟩ E' Z' a W1) (hl : Aa (Am st.ob obs) id = some (.arr e f rows)) (hv : Slc (E'.row id) (E'.cap id) (P.cellsOf e) 0 rows.length v) (hz : ∀ k, Z k → Z' k) (hz' : ∀ A, Z' A → Z A ∨ M A.block ∨ W0.heap.size ≤ A.block) (hbox : ∀ i, U i → E'.box i = E.box i) :
  D2 P W0 M U id E Z st a W o ⟨.one (.arr id), obs, rd⟩ := by
 have hone : v.oneCell' = true := by
  obtain ⟨_, A, rfl, _⟩ := hv
  rfl
 have hrep : D0 P W1 Z' (fun j => U j ∨ j = id) E' (Am st.ob obs) (.one (.arr id)) v := .one ⟨.inr rfl, hone, fun e' f' rows' h => by
  rw [hl] at h
  cases h
  exact hv⟩
 have R3 := (R.val o.dst hrep).moreU (U' := Gl U id) (fun j hj => by
  rcases hj with h | rfl
  ·exact .inl h
  ·exact .inr ⟨Nat.le_refl _, by omega⟩)
 exact ⟨.value v, v, W1, E', Z', hr, .inl rfl, by rw [I9]; exact R3, hz, hz', hbox⟩
end Go.Vm
namespace Go.Vm
open Go
variable {P : Program} {W0 W W' : World} {M U U' : Nat → Prop} {st : St} {E E' : Env} {Z Z' : Addr → Prop} {a : Act} {ob ob' : List (Nat × Ob)} {o : Oper} {u : Up} {tv : TV} {id : Nat}
theorem Pn {ks : List Kn} {l : List C} (h : Lx ks l = true) : l.map C.kind = ks := of_decide_eq_true h
theorem Ag8 : ∀ {ks : List Kn} {vs : List Value} {l : List SV} {z : List C} {s : St}, Es ks vs = some l → s.toCs l = some z → Aq (Ae P W Z) z vs := by
 intro ks
 induction ks with
 | nil =>
  intro vs l z s h hz
  cases vs with
  | nil => simp [Es] at h; subst h; simp [St.toCs] at hz; subst hz; exact .nil
  | cons v vs => simp [Es] at h
 | cons k ks ih =>
  intro vs l z s h hz
  cases vs with
  | nil => simp [Es] at h
  | cons v vs =>
   simp only [Es] at h
   split at h
   ·rename_i x hx
    split at h
    ·rename_i l' hl
     cases h
     simp only [St.toCs] at hz
     split at hz
     ·rename_i y hy
      split at hz
      ·rename_i z' hz'
       cases hz
       refine .cons ?_ (ih hl hz')
       unfold Oi at hx
       split at hx <;> cases hx <;> simp only [St.toC, Option.some.injEq] at hy <;> subst hy
       ·exact Ae.nil _
       ·exact Ae.fn0
       ·exact Ae.int _ _
       ·exact Ae.bool _
       ·exact Ae.str _
      ·cases hz
     ·cases hz
    ·cases h
   ·cases h
theorem Ms {e : TypeId} {z : List C} (h : Ho P e = some z) : ∃ i v ks, P.info? e = some i ∧ i.zero = some v ∧ Dy P e = some ks ∧ i.size = P.cellsOf e ∧ v.cells.size = P.cellsOf e ∧ z.length = P.cellsOf e ∧ ∀ (W : World) (Z : Addr → Prop), Aq (Ae P W Z) z v.cells.toList := by
 have h0 : ∃ l, zeroCells P e = some l ∧ St.toCs ⟨[], [], 0, 0⟩ l = some z := by
  unfold Ho at h
  split at h
  ·rename_i l ks hl hk
   split at h
   ·rename_i cs hcs
    split at h
    ·cases h
     exact ⟨l, hl, hcs⟩
    ·cases h
   ·cases h
  ·cases h
 obtain ⟨l, hl, h⟩ := h0
 ·obtain ⟨i, v, ks, h1, h2, h3, h4⟩ := Wy hl
  have key : ∀ (W : World) (Z : Addr → Prop), Aq (Ae P W Z) z v.cells.toList := fun W Z => Ag8 h4 h
  have hlen : ∀ {ks : List Kn} {vs : List Value} {l : List SV}, Es ks vs = some l → vs.length = ks.length := by
   intro ks
   induction ks with
   | nil => intro vs l h; cases vs with
    | nil => rfl
    | cons _ _ => simp [Es] at h
   | cons k ks ih => intro vs l h; cases vs with
    | nil => simp [Es] at h
    | cons v vs =>
     simp only [Es] at h
     split at h
     ·split at h
      ·simp [ih (by assumption)]
      ·cases h
     ·cases h
  have hk := Kk h3
  have hv := hlen h4
  simp only [Array.length_toList] at hv
  have hz := (key default (fun _ => True)).length
  simp only [Array.length_toList] at hz
  exact ⟨i, v, ks, h1, h2, h3, by simp [Program.cellsOf, h1], by omega, by omega, key⟩
theorem Wx {e : TypeId} {z : List C} {ks : List Kn} (hk : Dy P e = some ks) (h : Ho P e = some z) : z.map C.kind = ks := by
 unfold Ho at h
 rw [hk] at h
 split at h
 ·rename_i l ks' hl hk'
  cases hk'
  split at h
  ·split at h
   ·cases h
    exact Pn (by assumption)
   ·cases h
  ·cases h
 ·cases h
theorem S6 {e : TypeId} {z : List C} {v : Value} {n cap : Nat} (hs : v.cells.size = P.cellsOf e) (hz : z.length = P.cellsOf e) (hr : Aq (Ae P W Z) z v.cells.toList) (hn : n ≤ cap) :
  Fl P W Z (P.cellsOf e) (List.replicate n z) ((Array.range (cap * P.cellsOf e)).map (fun k => v.cells[k % v.cells.size]!)).toList := by
 refine ⟨by simp; exact Nat.mul_le_mul_right _ hn, fun r hr => by rw [List.eq_of_mem_replicate hr]; exact hz, fun j r o x hj hx => ?_⟩
 rw [List.getElem?_replicate] at hj
 split at hj
 ·rename_i hjn
  cases hj
  obtain ⟨u, h1, h2⟩ := hr.get o x hx
  refine ⟨u, ?_, h2⟩
  have ho : o < P.cellsOf e := by rw [← hz]; exact (List.getElem?_eq_some_iff.1 hx).1
  have hlt : j * P.cellsOf e + o < cap * P.cellsOf e := L1 (by omega) ho
  have hmod : (j * P.cellsOf e + o) % v.cells.size = o := by rw [hs, Nat.mul_comm, Nat.mul_add_mod, Nat.mod_eq_of_lt ho]
  have h3 : v.cells[o]? = some u := by simpa using h1
  simp [hlt, hmod]
  simp [getElem!_def, h3]
 ·cases hj
theorem Zu (R : Rel P W0 M U st E Z a W) {e : TypeId} {ks : List Kn} (hks : Dy P e = some ks) : ∀ {parts : List (Nat × Operand)} {rows rows' : List (List C)} {ids : List Nat} {cur : Array Value} {Z2 : Addr → Prop}, Ir P e st ks rows parts = some (rows', ids) → (∀ k, ZL P Z E st.ob ids k → Z2 k) →
  Fl P W Z2 (P.cellsOf e) rows cur.toList → (∀ r, r ∈ rows → r.map C.kind = ks) →
  ∃ cur', Instr.fill (fun i => some (i * P.cellsOf e, P.cellsOf e)) cur (parts.map fun x => (x.1, a.eval x.2)) = some cur' ∧ Fl P W Z2 (P.cellsOf e) rows' cur'.toList ∧ (∀ r, r ∈ rows' → r.map C.kind = ks) ∧ rows'.length = rows.length ∧ cur'.size = cur.size := by
 intro parts
 induction parts with
 | nil => intro rows rows' ids cur Z2 h hZ hf hk; simp [Ir] at h; obtain ⟨rfl, rfl⟩ := h; exact ⟨cur, rfl, hf, hk, rfl, rfl⟩
 | cons p parts ih =>
  intro rows rows' ids cur Z2 h hZ hf hk
  obtain ⟨j, x⟩ := p
  simp only [Ir] at h
  split at h
  ·rename_i vc hx
   split at h
   ·rename_i cs hcs
    split at h
    ·rename_i hka hj
     split at h
     ·rename_i rows2 ids2 hrec
      cases h
      have hka := Pn hka
      have hj : j < rows.length := Nat.le_of_ble_eq_true hj
      have h1 := N8 R (Ke R hx) hcs
      have h1' := h1.imp (S := Ae P W Z2) fun _ _ _ h => h.mono (fun _ _ => rfl) (fun k hk => hZ k (ZL.mono (fun i hi => List.mem_append_left _ hi) k hk))
      have hcl : cs.length = P.cellsOf e := H8 hks hka
      have hul := h1.length
      simp only [Array.length_toList] at hul
      have hb : j * P.cellsOf e + P.cellsOf e ≤ cur.size := by
       have h2 : (j + 1) * P.cellsOf e ≤ rows.length * P.cellsOf e := Nat.mul_le_mul_right _ hj
       have h3 := hf.1
       rw [Nat.add_mul] at h2
       simp only [Array.length_toList] at h3
       omega
      have hf2 := hf.set h1' hcl hj
      obtain ⟨cur', h4, h5, h6, h7, h8⟩ := ih (cur := ((a.eval x).cells.zipIdx.foldl (fun cs (q : Value × Nat) => cs.setIfInBounds (j * P.cellsOf e + q.2) q.1) cur)) (Z2 := Z2) hrec (fun k hk => hZ k (ZL.mono (fun i hi => List.mem_append_right _ hi) k hk)) (by
       have h11 := Nj (j * P.cellsOf e) (a.eval x).cells.toList 0 cur (by simp; omega)
       simp only [Nat.add_zero] at h11
       have h12 : ((a.eval x).cells.zipIdx.foldl (fun cs (q : Value × Nat) => cs.setIfInBounds (j * P.cellsOf e + q.2) q.1) cur) = ((a.eval x).cells.toList.zipIdx.foldl (fun cs (q : Value × Nat) => cs.setIfInBounds (j * P.cellsOf e + q.2) q.1) cur) := by
        rw [← Array.foldl_toList, Array.toList_zipIdx]
       rw [h12, h11]
       exact hf2) (fun r hr => by
        rcases List.mem_or_eq_of_mem_set hr with h | h
        ·exact hk r h
        ·rw [h]; exact hka)
      have hsz : ((a.eval x).cells.zipIdx.foldl (fun cs (q : Value × Nat) => cs.setIfInBounds (j * P.cellsOf e + q.2) q.1) cur).size = cur.size := by
       have h11 := Nj (j * P.cellsOf e) (a.eval x).cells.toList 0 cur (by simp; omega)
       simp only [Nat.add_zero] at h11
       have h12 : ((a.eval x).cells.zipIdx.foldl (fun cs (q : Value × Nat) => cs.setIfInBounds (j * P.cellsOf e + q.2) q.1) cur) = ((a.eval x).cells.toList.zipIdx.foldl (fun cs (q : Value × Nat) => cs.setIfInBounds (j * P.cellsOf e + q.2) q.1) cur) := by
        rw [← Array.foldl_toList, Array.toList_zipIdx]
       rw [h12, ← Array.length_toList, h11]
       simp
       omega
      refine ⟨cur', ?_, h5, h6, by rw [h7]; simp, by rw [h8, hsz]⟩
      simp only [List.map_cons, Instr.fill]
      rw [if_neg (by simp; omega)]
      exact h4
     ·cases h
    ·cases h
   ·cases h
  ·cases h
theorem Acq (R : Rel P W0 M U st E Z a W) (hf : ∀ j, id ≤ j → j < id + 128 → ¬ U j) {t : TypeId} {len : Nat} {parts : Array (Nat × Operand)} (ho : o.op = .buildSlice t len parts) (h : Kq P st id t len parts.toList = some u) : D2 P W0 M U id E Z st a W o u := by
 unfold Kq at h
 split at h
 ·rename_i z ks hz hks
  split at h
  ·rename_i rows ids hfill
   split at h
   ·rename_i hle hsl
    cases h
    obtain ⟨hd, hp⟩ := F1 hsl
    obtain ⟨i, v, ks', h1, h2, h3, h4, h5, h6, h7⟩ := Ms hz
    rw [hks] at h3
    cases h3
    have hle := Nat.le_of_ble_eq_true hle
    have RF := Rel.freezeAll (st := st) (ids := ids) (ob := st.ob) (Z := Z) R (fun i e f rows h _ => ⟨f, h⟩)
    obtain ⟨cur', h8, h9, h10, h11, h12⟩ := Zu R hks (Z2 := ZL P Z E st.ob ids) (cur := (Array.range (len * P.cellsOf (D6 P t))).map (fun k => v.cells[k % v.cells.size]!)) hfill (fun _ h => h) (S6 h5 h6 (h7 W _) (Nat.le_refl _)) (fun r hr => by
     rw [List.eq_of_mem_replicate hr]
     exact Wx hks hz)
    have hlen : rows.length = len := by simpa using h11
    have R2 := RF.newRow (id := id) (cur := cur') (cap := len) (Fi hf) hks hp h10 (by omega) (by
     have : len ≤ len * P.cellsOf (D6 P t) := Nat.le_mul_of_pos_right _ (by omega)
     simp only [maxLen]
     omega) (by rw [h12]; simp) h9
    have e0 : Am st.ob (st.freeze ids ++ [(id, some (.arr (D6 P t) false rows))]) = put (Am st.ob (st.freeze ids)) id (.arr (D6 P t) false rows) := by
     rw [Hl]
     rfl
    have hrun : (execOp a.eval o).run P W = .ok (.value (.slice (some ⟨W.heap.size, 0, none⟩) len len)) (W.alloc (.cells cur' (D6 P t))) := by
     have hzero : (zeroValue (D6 P t)).run P W = .ok v W := by simp [zeroValue, typeInfo, h1, h2]
     have h8' : Instr.fill (fun i => some (i * P.cellsOf (D6 P t), P.cellsOf (D6 P t))) ((Array.range (len * P.cellsOf (D6 P t))).map (fun k => v.cells[k % v.cells.size]!)) (parts.map fun x => (x.1, a.eval x.2)).toList = some cur' := by simpa using h8
     by_cases hl0 : len * P.cellsOf (D6 P t) = 0
     ·have e1 : ((Array.range (len * P.cellsOf (D6 P t))).map (fun k => v.cells[k % v.cells.size]!)) = ((Array.range (len * P.cellsOf (D6 P t))).map (fun k => (#[] : Array Value)[k % (#[] : Array Value).size]!)) := by rw [hl0]; simp
      rw [e1] at h8'
      simp [execOp, ho, Instr.buildSlice, run_underlying hd, Hj hp, hl0]
      rw [hl0] at h8'
      simp at h8'
      simp [h8', newRow]
     ·simp [execOp, ho, Instr.buildSlice, run_underlying hd, Hj hp, hl0, hzero]
      rw [if_neg (by omega)]
      have h8'' : Instr.fill (fun i => some (i * P.cellsOf (D6 P t), P.cellsOf (D6 P t))) ((Array.range (len * P.cellsOf (D6 P t))).map (fun k => v.cells[k % v.cells.size]!)) (List.map (fun x => (x.1, a.eval x.2)) parts.toList) = some cur' := by simpa using h8
      simp [h8'', newRow]
    refine Hd (id := id) (e := D6 P t) (rows := rows) (cap := len) (r := .skip) (E' := E.setRow id (some (W.heap.size, 0)) len) (Z' := ZL P Z E st.ob ids) hrun (by rw [e0]; exact R2) (by rw [e0, D8, if_pos rfl]) ?_ (fun _ h => .inl h) (fun k hk => ?_) (fun _ _ => by rfl)
    ·simp only [Env.setRow, if_true]
     exact ⟨by omega, _, by rw [hlen]; rfl, fun _ => ⟨_, _, rfl, by simp⟩⟩
    ·rcases hk with hk | ⟨i, _, e', f', rows', hl, hb⟩
     ·exact .inl hk
     ·exact .inr (R.own i _ _ hl hb.blk)
   ·cases h
  ·cases h
 ·cases h
end Go.Vm
namespace Go.Vm
open Go
variable {P : Program} {W0 W W' : World} {M U U' : Nat → Prop} {st : St} {E E' : Env} {Z Z' : Addr → Prop} {a : Act} {ob ob' : List (Nat × Ob)} {o : Oper} {u : Up} {tv : TV} {id : Nat}
theorem K0 {e : TypeId} {n : Nat} (h : C6 P e n = true) : n * P.bytesOf e ≤ 70368744177664 ∧ n ≤ 70368744177664 := of_decide_eq_true h
theorem M8 {e : TypeId} {i : TypeInfo} (h : P.info? e = some i) : P.bytesOf e = i.bytes := by simp [Program.bytesOf, h]
theorem Ac1 (R : Rel P W0 M U st E Z a W) (hf : ∀ j, id ≤ j → j < id + 128 → ¬ U j) {t : TypeId} {l c : Operand} (ho : o.op = .makeSlice t l c) (h : Js some P st id t l c = some u) : D2 P W0 M U id E Z st a W o u := by
 unfold Js at h
 split at h
 ·rename_i n m hn hm
  split at h
  ·rename_i z hz
   split at h
   ·rename_i h0
    split at h
    ·rename_i h1
     split at h
     ·rename_i hr hsl
      cases h
      have h0 := of_decide_eq_true h0
      have h1 := of_decide_eq_true h1
      obtain ⟨hd, hp⟩ := F1 hsl
      obtain ⟨i, v, ks, g1, g2, g3, g4, g5, g6, g7⟩ := Ms hz
      obtain ⟨r1, r2⟩ := K0 hr
      rw [M8 g1] at r1
      obtain ⟨k1, e1⟩ := Hg R hn
      obtain ⟨k2, e2⟩ := Hg R hm
      have hb : (i.bytes : Int) * m ≤ 281474976710656 := by
       have : ((m.toNat * i.bytes : Nat) : Int) ≤ 70368744177664 := by omega
       rw [Int.natCast_mul, Int.toNat_of_nonneg (by omega), Int.mul_comm] at this
       omega
      have hrun := run_make (P := P) W t (D6 P t) i v hd g1 g2 k1 k2 n m h0 h1 hb (by omega)
      rw [g4] at hrun
      have hlen : (List.replicate n.toNat z).length = n.toNat := by simp
      have R2 := R.newRow (id := id) (rows := List.replicate n.toNat z) (cur := madeCells v.cells (m.toNat * P.cellsOf (D6 P t))) (cap := m.toNat) (Fi hf) g3 hp (fun r hr => by rw [List.eq_of_mem_replicate hr]; exact Wx g3 hz) (by rw [hlen]; omega) (by simp only [maxLen]; omega) (by rw [size_madeCells]; exact Nat.le_refl _) (S6 g5 g6 (g7 W _) (by omega))
      refine Hd (id := id) (e := D6 P t) (rows := List.replicate n.toNat z) (cap := m.toNat) (r := .skip) (obs := [(id, some (.arr (D6 P t) false (List.replicate n.toNat z)))]) (v := .slice (some ⟨W.heap.size, 0, none⟩) n.toNat m.toNat) ?_ R2 (by simp only [Am]; rw [D8, if_pos rfl]) ?_ (fun _ h => h) (fun _ h => .inl h) (fun _ _ => by rfl)
      ·simp [execOp, ho, e1, e2, hrun]
      ·simp only [Env.setRow, if_true]
       exact ⟨by rw [hlen]; omega, _, by rw [hlen]; rfl, fun _ => ⟨_, _, rfl, by simp⟩⟩
     ·cases h
    ·cases h
   ·cases h
  ·cases h
 ·cases h
def It (n sz : Nat) (vs : Nat → Nat → Value) : List Value := (List.range (n * sz)).map fun k => vs (k / sz) (k % sz)
theorem Ni (n sz : Nat) (vs : Nat → Nat → Value) : (It n sz vs).length = n * sz := by simp [It]
theorem Z8 {n sz j o : Nat} (vs : Nat → Nat → Value) (hj : j < n) (ho : o < sz) : (It n sz vs)[j * sz + o]? = some (vs j o) := by
 have hlt := L1 hj ho
 have h1 : (j * sz + o) / sz = j := by
  rw [Nat.mul_comm, Nat.mul_add_div (by omega), Nat.div_eq_of_lt ho, Nat.add_zero]
 have h2 : (j * sz + o) % sz = o := by rw [Nat.mul_comm, Nat.mul_add_mod, Nat.mod_eq_of_lt ho]
 simp [It, hlt, h1, h2]
theorem S5 {n sz k : Nat} {vs : Nat → Nat → Value} {u : Value} (h : (It n sz vs)[k]? = some u) : k / sz < n ∧ k % sz < sz ∧ u = vs (k / sz) (k % sz) ∧ k = k / sz * sz + k % sz := by
 have hlt : k < n * sz := by
  have := (List.getElem?_eq_some_iff.1 h).1
  rwa [Ni] at this
 have hsz : 0 < sz := by
  rcases Nat.eq_zero_or_pos sz with h0 | h0
  ·rw [h0] at hlt; simp at hlt
  ·exact h0
 refine ⟨(Nat.div_lt_iff_lt_mul hsz).2 hlt, Nat.mod_lt _ hsz, ?_, ?_⟩
 ·simp [It, hlt] at h
  exact h.symm
 ·rw [Nat.mul_comm]
  exact (Nat.div_add_mod k sz).symm
def J4 (P : Program) (W : World) (Z : Addr → Prop) (e : TypeId) (l : List (List C)) (v : Value) : Prop :=
 ∃ (ks : List Kn) (A : Option Addr) (c : Nat) (vs : Nat → Nat → Value), v = .slice A l.length c ∧ (l ≠ [] → Dy P e = some ks) ∧ l.length ≤ c ∧ c ≤ maxLen ∧ (∀ r, r ∈ l → r.map C.kind = ks) ∧ (l ≠ [] → A.isSome = true) ∧
  (∀ j r o x ad, l[j]? = some r → r[o]? = some x → A = some ad → W.cell? (ad.add (j * P.cellsOf e + o)) = some (vs j o)) ∧ (∀ j r o x, l[j]? = some r → r[o]? = some x → Ae P W Z x (vs j o))
theorem Mi {e : TypeId} {l : List (List C)} {v : Value} (h : Ae P W Z (.row e l) v) : J4 P W Z e l v := by
 cases h with
 | row _ _ ks A c vs hk hc hm ht hs hA hr => exact ⟨ks, A, c, vs, rfl, hk, hc, hm, ht, hs, fun j r o x ad h1 h2 h3 => (hA j r o x ad h1 h2 h3).2, hr⟩
theorem K5 (R : Rel P W0 M U st E Z a W) {i lo n : Nat} {e : TypeId} {f : Bool} {rows : List (List C)} {v : Value} (hl : Aa st.ob i = some (.arr e f rows)) (hlo : lo + n ≤ rows.length) (hs : Slc (E.row i) (E.cap i) (P.cellsOf e) lo n v) :
  J4 P W Z e ((rows.drop lo).take n) v := by
 obtain ⟨ks, A, c, vs, h1, h2, h3, h4, h5, h6, h7, h8⟩ := Mi (Qe R hl hlo hs)
 refine ⟨ks, A, c, vs, h1, h2, h3, h4, h5, h6, h7, fun j r o x hj hr => ?_⟩
 obtain ⟨r1, r2, ks', r3, r4, r5, r6⟩ := R.ob i _ hl
 have hjn : j < n ∧ rows[lo + j]? = some r := by
  have hjn : j < n := by
   have := (List.getElem?_eq_some_iff.1 hj).1
   simp at this
   omega
  rw [List.getElem?_take, if_pos hjn, List.getElem?_drop] at hj
  exact ⟨hjn, hj⟩
 obtain ⟨q1, B, q2, q3⟩ := hs
 obtain ⟨g, off, cur, q4, q5, q6, q7⟩ := r6 (by omega)
 obtain ⟨g', off', q8, q9⟩ := q3 (by omega)
 rw [q4] at q8
 cases q8
 rw [q2] at h1
 injection h1 with hA _ _
 obtain ⟨u, q10, q11⟩ := q7 _ r o x hjn.2 hr
 have := h7 j r o x _ hj hr (by rw [← hA, q9])
 rw [E9, Io q5] at this
 have e1 : off + lo * P.cellsOf e + (j * P.cellsOf e + o) = off + (lo + j) * P.cellsOf e + o := by rw [Nat.add_mul]; omega
 rw [e1, q10] at this
 cases this
 exact q11
theorem Nz {e : TypeId} {l : List (List C)} {v : Value} {ks : List Kn} (hks : Dy P e = some ks) (hp : P.cellsOf e ≠ 0) (h : J4 P W Z e l v) :
  ∃ A c news, v = .slice A l.length c ∧ l.length ≤ c ∧ c ≤ maxLen ∧ news.length = l.length * P.cellsOf e ∧ (∀ r, r ∈ l → r.map C.kind = ks) ∧ Fl P W Z (P.cellsOf e) l news ∧ (∀ u, u ∈ news → u.oneCell' = true) ∧ ∀ W2 : World, W2.heap = W.heap → (Builtin.firstCells (P.cellsOf e) l.length v).run P W2 = .ok news.toArray W2 := by
 obtain ⟨ks', A, c, vs, rfl, hk, hc, hm, ht, hs, hA, hr⟩ := h
 have hkind : ∀ r, r ∈ l → r.map C.kind = ks := fun r hr' => by
  have hne : l ≠ [] := fun e => by rw [e] at hr'; cases hr'
  have := hk hne
  rw [hks] at this
  cases this
  exact ht r hr'
 have hget : ∀ {j o : Nat}, j < l.length → o < P.cellsOf e → ∃ r x, l[j]? = some r ∧ r[o]? = some x := by
  intro j o hj ho
  have hr' : l[j]? = some l[j] := List.getElem?_eq_getElem hj
  have hl : l[j].length = P.cellsOf e := H8 hks (hkind _ (List.getElem_mem hj))
  exact ⟨_, _, hr', List.getElem?_eq_getElem (by omega)⟩
 refine ⟨A, c, It l.length (P.cellsOf e) vs, rfl, hc, hm, Ni _ _ _, hkind, ⟨by rw [Ni]; exact Nat.le_refl _, fun r hr' => H8 hks (hkind r hr'), fun j r o x hj hx => ?_⟩, fun u hu => ?_, fun W2 hW2 => ?_⟩
 ·have hjl := (List.getElem?_eq_some_iff.1 hj).1
  have hol : o < P.cellsOf e := by rw [← H8 hks (hkind r (List.mem_of_getElem? hj))]; exact (List.getElem?_eq_some_iff.1 hx).1
  exact ⟨_, Z8 vs hjl hol, hr j r o x hj hx⟩
 ·obtain ⟨k, hk'⟩ := List.getElem?_of_mem hu
  obtain ⟨h1, h2, h3, _⟩ := S5 hk'
  obtain ⟨r, x, h4, h5⟩ := hget h1 h2
  rw [h3]
  exact (hr _ r _ x h4 h5).one
 ·by_cases hl : l = []
  ·subst hl
   cases A <;> simp [Builtin.firstCells, It, loadCells, loadCellsFrom]
  ·obtain ⟨ad, rfl⟩ := Option.isSome_iff_exists.1 (hs hl)
   refine run_firstCells_some W2 (P.cellsOf e) l.length ad l.length c _ (Ni _ _ _) (fun k u hk' => ?_)
   obtain ⟨h1, h2, h3, h4⟩ := S5 hk'
   obtain ⟨r, x, h5, h6⟩ := hget h1 h2
   have h7 := hA _ r _ x ad h5 h6 rfl
   rw [h4, h3, ← h7]
   simp [World.cell?, hW2]
theorem P5 {t t2 ty e : TypeId} {A : Option Addr} {n cap m : Nat} {x : Value} {news : List Value} (ht : P.underlying t = some (.slice e)) (hp : P.cellsOf e ≠ 0) (h2 : (∃ e', P.underlying t2 = some (.slice e')) ∨ P.underlying t2 = some .string) (hlen : (Builtin.lenOf x).run P W = .ok m W)
  (hnew : (Builtin.firstCells (P.cellsOf e) m x).run P W = .ok news.toArray W) (hfit : n + m ≤ cap) :
  (Builtin.append_ #[t, t2] ty #[.slice A n cap, x]).run P W = match A with
   | none => .ok (.slice none (n + m) cap) W
   | some b => ((storeCells (b.add (n * P.cellsOf e)) news).run P W).andThen fun _ w => .ok (.slice (some b) (n + m) cap) w := by
 rcases h2 with ⟨e', hd⟩ | hd <;> cases A <;> simp [Builtin.append_, run_underlying ht, run_underlying hd, Hj hp, hlen, hfit, hnew]
theorem P6 {t t2 ty e : TypeId} {i : TypeInfo} {z : Value} {A : Option Addr} {n cap m : Nat} {x : Value} {news olds : List Value} (ht : P.underlying t = some (.slice e)) (hi : P.info? e = some i) (hz : i.zero = some z) (hp : P.cellsOf e ≠ 0) (h2 : (∃ e', P.underlying t2 = some (.slice e')) ∨ P.underlying t2 = some .string) (hlen : (Builtin.lenOf x).run P W = .ok m W)
  (hnew : ∀ W2 : World, W2.heap = W.heap → (Builtin.firstCells (P.cellsOf e) m x).run P W2 = .ok news.toArray W2) (H1 : ∀ W2 : World, W2.heap = W.heap → (Builtin.firstCells (P.cellsOf e) n (.slice A n cap)).run P W2 = .ok olds.toArray W2)
  (hfit : ¬ n + m ≤ cap) (hb : (n + m) * i.bytes ≤ 70368744177664) (hm : n + m ≤ 70368744177664) :
  ∃ nc, n + m ≤ nc ∧ nc ≤ maxLen ∧ (Builtin.append_ #[t, t2] ty #[.slice A n cap, x]).run P W = .ok (.slice (some ⟨W.heap.size, 0, none⟩) (n + m) nc) (W.drew.alloc (.cells (olds.toArray ++ news.toArray ++ Builtin.zeroCells z.cells (nc - (n + m))) e)) := by
 have h1 := growslice_fits (need := n + m) (old := cap) (bytes := i.bytes) (by omega) (by omega)
 refine ⟨grownCap W (n + m) cap e, grownCap_ge W _ _ _, grownCap_le_maxLen W _ _ _ (by simp only [maxLen]; omega), ?_⟩
 have hsm : ¬ ((9223372036854775807 : Int) < (n : Int) + (m : Int) ∧ i.bytes = 0) := fun h => by omega
 have h3 : ¬ (281474976710656 < Builtin.nextslicecap (n + m) cap * i.bytes) := by omega
 have hz0 : (zeroValue e).run P W.drew = .ok z W.drew := by simp [zeroValue, typeInfo, hi, hz]
 have hold' := H1 W.drew rfl
 have hnew' := hnew W.drew rfl
 rcases h2 with ⟨e', hd⟩ | hd <;> simp [Builtin.append_, run_underlying ht, run_underlying hd, Hj hp, hlen, hfit, typeInfo, hi, h3, hsm, hold', hnew', hz0, Question.forced, grownCap, newRow] <;> (congr 2; apply Array.ext'; simp)
theorem Ol (R : Rel P W0 M U st E Z a W) {e t2 : TypeId} {x : Operand} {new : List (List C)} {ids : List Nat} {ks : List Kn} (hks : Dy P e = some ks) (hp : P.cellsOf e ≠ 0) (h : Ha P st e t2 x = some (new, ids)) :
  ((∃ e', P.underlying t2 = some (.slice e')) ∨ P.underlying t2 = some .string) ∧ (Builtin.lenOf (a.eval x)).run P W = .ok new.length W ∧
  ∃ news, news.length = new.length * P.cellsOf e ∧ (∀ r, r ∈ new → r.map C.kind = ks) ∧ Fl P W Z (P.cellsOf e) new news ∧ (∀ u, u ∈ news → u.oneCell' = true) ∧ ∀ W2 : World, W2.heap = W.heap → (Builtin.firstCells (P.cellsOf e) new.length (a.eval x)).run P W2 = .ok news.toArray W2 := by
 have hrow : ∀ {v : Value}, a.eval x = v → Ej P t2 e = true → J4 P W Z e new v → ((∃ e', P.underlying t2 = some (.slice e')) ∨ P.underlying t2 = some .string) ∧ (Builtin.lenOf (a.eval x)).run P W = .ok new.length W ∧
  ∃ news, news.length = new.length * P.cellsOf e ∧ (∀ r, r ∈ new → r.map C.kind = ks) ∧ Fl P W Z (P.cellsOf e) new news ∧ (∀ u, u ∈ news → u.oneCell' = true) ∧ ∀ W2 : World, W2.heap = W.heap → (Builtin.firstCells (P.cellsOf e) new.length (a.eval x)).run P W2 = .ok news.toArray W2 := by
  intro v hv hsl hr
  obtain ⟨A, c, news, rfl, h1, h2, h3, h4, h5, h6, h7⟩ := Nz hks hp hr
  rw [hv]
  exact ⟨.inl ⟨_, (F1 hsl).1⟩, by simp [Builtin.lenOf], news, h3, h4, h5, h6, h7⟩
 unfold Ha at h
 split at h
 ·rename_i z hx
  split at h
  ·rename_i hs hk
   cases h
   have hk := of_decide_eq_true hk
   rw [hks] at hk
   cases hk
   have hsz : P.cellsOf e = 1 := (Kk hks).symm
   have hr := G6 R hx
   generalize hv : a.eval x = w at hr
   cases hr with
   | one hr =>
    cases (show Ae P W Z (.str z) w from hr)
    have hlen : (Fh z).length = z.size := by simp [Fh]
    refine ⟨.inr (J1 hs), by simp [Builtin.lenOf, hlen], z.data.toList.map (fun b => .int .u8 b.toNat), by simp [hsz, Fh], fun r hr => ?_, ⟨by simp [hsz, Fh], fun r hr => ?_, fun j r o x hj hr => ?_⟩, fun u hu => ?_, fun W2 _ => ?_⟩
    ·simp only [Fh, List.mem_map] at hr
     obtain ⟨b, _, rfl⟩ := hr
     rfl
    ·simp only [Fh, List.mem_map] at hr
     obtain ⟨b, _, rfl⟩ := hr
     rw [hsz]
     rfl
    ·simp only [Fh, List.getElem?_map, Option.map_eq_some_iff] at hj
     obtain ⟨b, hb, rfl⟩ := hj
     cases o with
     | zero =>
      simp only [List.getElem?_cons_zero, Option.some.injEq] at hr
      subst hr
      refine ⟨.int .u8 b.toNat, ?_, Ae.int _ _⟩
      rw [hsz]
      simp only [Nat.mul_one, Nat.add_zero, List.getElem?_map, hb, Option.map_some]
     | succ o => simp at hr
    ·simp only [List.mem_map] at hu
     obtain ⟨b, _, rfl⟩ := hu
     rfl
    ·have e1 : z.extract 0 z.size = z := by simp
     simp only [Builtin.firstCells, hlen, e1, Sem.run_pure]
     congr 1
     apply Array.ext'
     simp
  ·cases h
 ·rename_i v _ hx
  split at h
  ·rename_i hsl
   have hr := G6 R hx
   generalize hv : a.eval x = w at hr
   cases hr with
   | one hr =>
    cases v with
    | c y =>
     cases y with
     | nil e' =>
      simp only [St.rowOf, Option.some.injEq, Prod.mk.injEq] at h
      obtain ⟨rfl, rfl⟩ := h
      cases (show Ae P W Z (.nil e') w from hr)
      rw [← hv]
      exact hrow hv hsl (Mi (Ae.rowNil e))
     | row e' l =>
      simp only [St.rowOf] at h
      split at h
      ·rename_i hb
       cases Nat.eq_of_beq_eq_true hb
       cases h
       rw [← hv]
       exact hrow hv hsl (Mi (show Ae P W Z (.row e new) w from hr))
      ·cases h
     | int k n => simp [St.rowOf] at h
     | bool b => simp [St.rowOf] at h
     | str s => simp [St.rowOf] at h
     | fn g => simp [St.rowOf] at h
    | arr i =>
     simp only [St.rowOf] at h
     split at h
     ·rename_i e' f rows hl
      split at h
      ·rename_i hb
       cases Nat.eq_of_beq_eq_true hb
       cases h
       have := K5 R (lo := 0) (n := new.length) hl (by omega) (hr.2.2 e f new hl)
       simp only [List.drop_zero, List.take_length] at this
       rw [← hv]
       exact hrow hv hsl this
      ·cases h
     ·cases h
    | sub i lo n =>
     simp only [St.rowOf] at h
     split at h
     ·rename_i e' f rows hl
      split at h
      ·rename_i hb
       cases Nat.eq_of_beq_eq_true hb
       cases h
       obtain ⟨h1, h2⟩ := hr.2.2 e f rows hl
       rw [← hv]
       exact hrow hv hsl (K5 R hl h1 h2)
      ·cases h
     ·cases h
    | ptr i off => simp [St.rowOf] at h
    | ept i r off => simp [St.rowOf] at h
    | rop e l off => simp [St.rowOf] at h
  ·cases h
 ·cases h
end Go.Vm
namespace Go.Vm
open Go
variable {P : Program} {W0 W W' : World} {M U U' : Nat → Prop} {st : St} {E E' : Env} {Z Z' : Addr → Prop} {a : Act} {ob ob' : List (Nat × Ob)} {o : Oper} {u : Up} {tv : TV} {id : Nat}
theorem Rel.moreZ (R : Rel P W0 M U st E Z a W) (hz : ∀ k, Z k → Z' k) (hlt : ∀ A, Z' A → A.block < W.heap.size) (hno : ∀ i o g, Aa st.ob i = some o → Aw E i o = some g → ∀ A, Z' A → A.block = g → Z A) : Rel P W0 M U st E Z' a W := by
 have K : Eh W W Z Z' U U E E st.ob st.ob := ⟨hz, fun _ h => h, fun _ _ => rfl, fun _ _ _ _ => ⟨rfl, rfl, rfl⟩, fun j o _ h => ⟨o, h, D9.refl o⟩⟩
 exact R.change K (fun j o h => (R.ob j o h).move K ⟨rfl, rfl, rfl⟩ (fun _ _ => rfl)) R.ids R.inj (fun i o g h1 h2 h3 A hA hg => R.free i o g h1 h2 h3 A (hno i o g h1 h2 A hA hg) hg) (fun i e rows g off h1 h2 h3 => by
  obtain ⟨q1, q2⟩ := R.frz i e rows g off h1 h2 h3
  exact ⟨fun o ho => hz _ (q1 o ho), fun A hA hg => q2 A (hno i _ g h1 (by simp [Aw, h2, h3]) A hA hg) hg⟩) hlt R.own (fun _ _ _ => rfl) (Nat.le_refl _) rfl rfl rfl
theorem Rel.newData (R : Rel P W0 M U st E Z a W) (H1 : ∀ j, j < W.heap.size → W'.heap[j]? = W.heap[j]?) (hsz : W'.heap.size = W.heap.size + 1) (hos : W'.os = W.os) (ht : W'.tape = W.tape) (hout : W'.output = W.output) :
  Rel P W0 M U st E (fun A => Z A ∨ A.block = W.heap.size) a W' := by
 have R2 : Rel P W0 M U st E Z a W' := R.world (fun A hA => Gp (H1 _ (R.zlt A hA))) (fun i o g hi hg => H1 g (R.lt hi hg)) (fun k hk _ => H1 k (Nat.lt_of_lt_of_le hk R.size)) (by omega) hos ht hout
 refine R2.moreZ (fun _ h => .inl h) (fun k hk => ?_) (fun i o g h1 h2 A h3 hg => ?_)
 ·rcases hk with hk | hk
  ·have := R.zlt k hk; omega
  ·omega
 ·rcases h3 with h3 | h3
  ·exact h3
  ·exact absurd (R.lt h1 h2) (by omega)
theorem Ta (R : Rel P W0 M U st E Z a W) {e : TypeId} {k : IntKind} {ns : List Int} {cap : Nat} {W1 : World} (hr : (execOp a.eval o).run P W = .ok (.value (.slice (some ⟨W.heap.size, 0, none⟩) ns.length cap)) W1)
  (H1 : ∀ j, j < W.heap.size → W1.heap[j]? = W.heap[j]?) (hsz : W1.heap.size = W.heap.size + 1) (hos : W1.os = W.os) (ht : W1.tape = W.tape) (hout : W1.output = W.output) (hk : Dy P e = some [.int k]) (hc : ns.length ≤ cap) (hm : cap ≤ maxLen)
  (hcell : ∀ (j : Nat) n, ns[j]? = some n → W1.cell? ⟨W.heap.size, j, none⟩ = some (.int k n)) : D2 P W0 M U id E Z st a W o (.val (.one (.c (.row e (ns.map fun n => [.int k n]))))) := by
 have R2 := R.newData H1 hsz hos ht hout
 have hsz1 : P.cellsOf e = 1 := (Kk hk).symm
 have hlen : (ns.map fun n => [C.int k n]).length = ns.length := by simp
 have hrow : Ae P W1 (fun A => Z A ∨ A.block = W.heap.size) (.row e (ns.map fun n => [.int k n])) (.slice (some ⟨W.heap.size, 0, none⟩) ns.length cap) := by
  rw [← hlen]
  refine .row e _ [.int k] _ _ (fun j _ => .int k (ns.getD j 0)) (fun _ => hk) (by rw [hlen]; exact hc) hm (fun r hr => ?_) (fun _ => rfl) (fun j r o x ad h1 h2 h3 => ?_) (fun j r o x h1 h2 => ?_)
  ·obtain ⟨n, _, rfl⟩ := List.mem_map.1 hr
   rfl
  ·cases h3
   refine ⟨.inr (by rw [Qx]), ?_⟩
   rw [List.getElem?_map, Option.map_eq_some_iff] at h1
   obtain ⟨n, h1, rfl⟩ := h1
   cases o with
   | zero => rw [E9, hsz1, Nat.zero_add, Nat.mul_one, Nat.add_zero, hcell j n h1]; simp [List.getD, h1]
   | succ o => simp at h2
  ·rw [List.getElem?_map, Option.map_eq_some_iff] at h1
   obtain ⟨n, h1, rfl⟩ := h1
   cases o with
   | zero =>
    simp only [List.getElem?_cons_zero, Option.some.injEq] at h2
    subst h2
    have : ns.getD j 0 = n := by simp [List.getD, h1]
    rw [this]
    exact .int k n
   | succ o => simp at h2
 refine ⟨_, _, W1, E, (fun A => Z A ∨ A.block = W.heap.size), hr, .inl rfl, ?_, fun _ h => .inl h, fun j hj => ?_, fun _ _ => rfl⟩
 ·rw [Wo st o.dst _ rfl]
  exact (R2.val o.dst (.one (v := .c (.row e (ns.map fun n => [.int k n]))) hrow)).moreU fun _ h => .inl h
 ·rcases hj with hj | hj
  ·exact .inl hj
  ·exact .inr (.inr (by have := R.size; omega))
theorem Vx (s : ByteArray) : ∀ (b i : Nat) (acc : Array Value), (Conv.runesFrom s b i acc).toList = acc.toList ++ (Er s b i).map (Value.int .i32) := by
 intro b
 induction b with
 | zero => intro i acc; simp [Conv.runesFrom, Er]
 | succ b ih =>
  intro i acc
  unfold Conv.runesFrom Er
  split
  ·simp only [ih]
   simp
  ·simp
theorem Afa (s : ByteArray) (b i : Nat) : (Conv.runesFrom s b i #[]).size = (Er s b i).length := by
 have := congrArg List.length (Vx s b i #[])
 simpa using this
theorem Vw (s : ByteArray) : ∀ b i, (Er s b i).length ≤ b := by
 intro b
 induction b with
 | zero => intro i; simp [Er]
 | succ b ih =>
  intro i
  unfold Er
  split
  ·have := ih (i + (Utf8.decode s i).2)
   simp; omega
  ·simp
theorem Ahi (l : List UInt8) (s : ByteArray) : (l.map fun b => (b.toNat : Int)).foldl (fun r n => r.push (UInt8.ofNat n.toNat)) s = ⟨s.data ++ l.toArray⟩ := by
 induction l generalizing s with
 | nil => simp
 | cons b l ih =>
  simp only [List.map_cons, List.foldl_cons]
  rw [ih]
  simp [ByteArray.push]
theorem Aac (l : List Int) (s : ByteArray) : l.foldl (fun r n => r.push (UInt8.ofNat n.toNat)) s = ⟨s.data ++ (l.map fun n => UInt8.ofNat n.toNat).toArray⟩ := by
 induction l generalizing s with
 | nil => simp
 | cons b l ih =>
  simp only [List.map_cons, List.foldl_cons]
  rw [ih]
  simp [ByteArray.push]
theorem Aey (R : Rel P W0 M U st E Z a W) {e : TypeId} {v : SV} {w : Value} {rows : List (List C)} {ids : List Nat} (hr : Cs P W Z U E st.ob v w) (h : st.rowOf e v = some (rows, ids)) : J4 P W Z e rows w := by
 cases v with
 | c y =>
  cases y with
  | nil e' =>
   simp only [St.rowOf, Option.some.injEq, Prod.mk.injEq] at h
   obtain ⟨rfl, rfl⟩ := h
   cases (show Ae P W Z (.nil e') w from hr)
   exact Mi (Ae.rowNil e)
  | row e' l =>
   simp only [St.rowOf] at h
   split at h
   ·rename_i hb
    cases Nat.eq_of_beq_eq_true hb
    cases h
    exact Mi (show Ae P W Z (.row e rows) w from hr)
   ·cases h
  | int k n => simp [St.rowOf] at h
  | bool b => simp [St.rowOf] at h
  | str s => simp [St.rowOf] at h
  | fn g => simp [St.rowOf] at h
 | arr i =>
  simp only [St.rowOf] at h
  split at h
  ·rename_i e' f rs hl
   split at h
   ·rename_i hb
    cases Nat.eq_of_beq_eq_true hb
    cases h
    have := K5 R (lo := 0) (n := rows.length) hl (by omega) (hr.2.2 e f rows hl)
    simpa using this
   ·cases h
  ·cases h
 | sub i lo n =>
  simp only [St.rowOf] at h
  split at h
  ·rename_i e' f rs hl
   split at h
   ·rename_i hb
    cases Nat.eq_of_beq_eq_true hb
    cases h
    obtain ⟨h1, h2⟩ := hr.2.2 e f rs hl
    exact K5 R hl h1 h2
   ·cases h
  ·cases h
 | ptr i off => simp [St.rowOf] at h
 | ept i r off => simp [St.rowOf] at h
 | rop e l off => simp [St.rowOf] at h
theorem Abf {e : TypeId} {k : IntKind} {l : List (List C)} (h : ∀ r, r ∈ l → r.map C.kind = [.int k]) : l = (l.map fun r => (r.headD default).it).map fun n => [.int k n] := by
 induction l with
 | nil => rfl
 | cons r l ih =>
  have hr := h r List.mem_cons_self
  rw [List.map_cons, List.map_cons, ← ih fun r hr => h r (List.mem_cons_of_mem _ hr)]
  cases r with
  | nil => cases hr
  | cons x r =>
   cases r with
   | cons y r => simp at hr
   | nil => cases x <;> simp [C.kind, C.it] at hr ⊢; exact hr
theorem Yn {e : TypeId} {l : List (List C)} {src dst : TypeId} {w : Value} (hs : P.underlying src = some (.slice e)) (he : P.underlying e = some (.int .u8)) (hd : P.underlying dst = some .string) (hk : Dy P e = some [.int .u8]) (h : J4 P W Z e l w) :
  (convert src dst w).run P W = .ok (.string (Ee l)) W := by
 have hsz1 : P.cellsOf e = 1 := (Kk hk).symm
 obtain ⟨A, c, news, rfl, h1, h2, h3, h4, h5, h6, h7⟩ := Nz hk (by rw [hsz1]; exact Nat.one_ne_zero) h
 rw [run_convert_bytes_string W src dst e A l.length c hs he hd]
 have hl := Abf (e := e) h4
 generalize hns : (l.map fun r => (r.headD default).it) = ns at hl
 have hrb : Ee l = ⟨(ns.map fun n => UInt8.ofNat n.toNat).toArray⟩ := by
  unfold Ee
  rw [← hns, List.map_map]
  rfl
 have hnl : ns.length = l.length := by rw [← hns]; simp
 cases A with
 | none =>
  have h0 : l = [] := by
   have h8 := h7 W rfl
   cases l with
   | nil => rfl
   | cons r l =>
    exfalso
    have : news = [] := by
     have h9 : (Builtin.firstCells (P.cellsOf e) (r :: l).length (.slice none (r :: l).length c)).run P W = .ok #[] W := by simp [Builtin.firstCells]
     rw [h9] at h8
     cases news with
     | nil => rfl
     | cons x y => simp at h8
    rw [this] at h3
    simp [hsz1] at h3
  subst h0
  simp [Conv.bytesToString, Ee]
  rfl
 | some ad =>
  have hne : news = ns.map (Value.int .u8) := by
   apply List.ext_getElem?
   intro j
   by_cases hj : j < ns.length
   ·have hr : l[j]? = some [.int .u8 ns[j]] := by
     rw [hl, List.getElem?_map, List.getElem?_eq_getElem hj]
     rfl
    obtain ⟨v, h8, h9⟩ := h5.2.2 j _ 0 _ hr rfl
    cases h9
    rw [hsz1, Nat.mul_one, Nat.add_zero] at h8
    rw [h8, List.getElem?_map, List.getElem?_eq_getElem hj]
    rfl
   ·rw [List.getElem?_eq_none (by rw [h3, hsz1]; omega), List.getElem?_eq_none (by simp; omega)]
  have h8 := h7 W rfl
  have hld : (loadCells ad l.length).run P W = .ok (ns.map (Value.int .u8)).toArray W := by
   rw [← hne, ← h8]
   simp [Builtin.firstCells, hsz1]
  rw [run_bytesToString W ad l.length c ns hld, Aac, hrb]
  simp
theorem Acr (R : Rel P W0 M U st E Z a W) (hs : ∀ cs b, o.op ≠ .select cs b) {src dst : TypeId} {x : Operand} (ho : o.op = .convert src dst x) (h : H5 some P st o src dst x = some u) : D2 P W0 M U id E Z st a W o u := by
 have hpure : D4 some (Ek P st o) = some u → D2 P W0 M U id E Z st a W o u := by
  intro h
  unfold D4 at h
  split at h
  ·cases h
   exact L4 R hs (by assumption)
  ·cases h
 unfold H5 at h
 split at h
 ·rename_i s hx
  have hv := Kw R hx
  split at h
  ·rename_i e hd
   split at h
   ·rename_i he hsr hk
    split at h
    ·rename_i hroom
     cases h
     have hk := of_decide_eq_true hk
     obtain ⟨_, hle⟩ := K0 hroom
     have hlen : (s.data.toList.map fun b => (b.toNat : Int)).length = s.size := by simp
     have hrow : Fh s = (s.data.toList.map fun b => (b.toNat : Int)).map fun n => [.int .u8 n] := by simp [Fh]
     rw [hrow]
     refine Ta (cap := grownCap W s.size 0 e) (W1 := Lib.bytesWorld W e s) R ?_ (fun j hj => Lib.bytesWorld_at_old W e s j hj) (Lib.bytesWorld_size W e s) rfl rfl rfl hk (by rw [hlen]; exact grownCap_ge W _ 0 e) (grownCap_le_maxLen W _ 0 e (by simp only [maxLen]; omega)) (fun j n hj => ?_)
     ·rw [hlen]
      simp [execOp, ho, hv, Lib.run_convert_string_bytes W src dst e s (J1 hsr) hd he]
     ·have hjl : j < s.size := by rw [← hlen]; exact (List.getElem?_eq_some_iff.1 hj).1
      rw [Lib.bytesWorld_cell W e s j hjl]
      rw [List.getElem?_map, Option.map_eq_some_iff] at hj
      obtain ⟨b, hb, rfl⟩ := hj
      simp [List.getD, hb]
    ·cases h
   ·rename_i he hsr hk
    split at h
    ·rename_i hroom
     cases h
     have hk := of_decide_eq_true hk
     obtain ⟨_, hle⟩ := K0 hroom
     have hl := Vw s s.size 0
     have hz := Afa s s.size 0
     refine Ta (ns := Er s s.size 0) (cap := grownCap W (Conv.runesFrom s s.size 0 #[]).size 0 e) (W1 := W.drew.alloc (.cells (Conv.runesFrom s s.size 0 #[] ++ Array.replicate (grownCap W (Conv.runesFrom s s.size 0 #[]).size 0 e - (Conv.runesFrom s s.size 0 #[]).size) (.int .i32 0)) e)) R ?_ (fun j hj => (Ij W.drew _).1 j hj) (Ij W.drew _).2.2.2 rfl rfl rfl hk (by rw [← hz]; exact grownCap_ge W _ 0 e) (grownCap_le_maxLen W _ 0 e (by simp only [maxLen]; omega)) (fun j n hj => ?_)
     ·rw [← hz]
      simp [execOp, ho, hv, run_runes_of_string W src dst e s (J1 hsr) hd he (by omega)]
     ·have hnew := (Ij W.drew (.cells (Conv.runesFrom s s.size 0 #[] ++ Array.replicate (grownCap W (Conv.runesFrom s s.size 0 #[]).size 0 e - (Conv.runesFrom s s.size 0 #[]).size) (.int .i32 0)) e)).2.1
      have hnew : (W.drew.alloc (.cells (Conv.runesFrom s s.size 0 #[] ++ Array.replicate (grownCap W (Conv.runesFrom s s.size 0 #[]).size 0 e - (Conv.runesFrom s s.size 0 #[]).size) (.int .i32 0)) e)).heap[W.heap.size]? = some (.cells (Conv.runesFrom s s.size 0 #[] ++ Array.replicate (grownCap W (Conv.runesFrom s s.size 0 #[]).size 0 e - (Conv.runesFrom s s.size 0 #[]).size) (.int .i32 0)) e (0, 0)) := hnew
      rw [Io hnew]
      have hjl := (List.getElem?_eq_some_iff.1 hj).1
      rw [Array.getElem?_append_left (by rw [hz]; exact hjl), ← Array.getElem?_toList, Vx]
      simp [hj]
    ·cases h
   ·cases h
  ·exact hpure h
 ·rename_i v _ hx
  split at h
  ·rename_i e hd hsr
   split at h
   ·rename_i he hk
    split at h
    ·rename_i rows ids hrow
     cases h
     have hr := C4 R hx
     generalize hv : a.eval x = w at hr
     cases hr with
     | one hr =>
      have hrun := Yn hsr he hd (of_decide_eq_true hk) (Aey R hr hrow)
      exact Ds (v := .string (Ee rows)) R (by simp [execOp, ho, hv, hrun]) rfl (.one (Ae.str _))
    ·cases h
   ·cases h
  ·exact hpure h
 ·exact hpure h
end Go.Vm
namespace Go.Vm
open Go
variable {P : Program} {W0 W W' : World} {M U U' : Nat → Prop} {st : St} {E E' : Env} {Z Z' : Addr → Prop} {a : Act} {ob ob' : List (Nat × Ob)} {o : Oper} {u : Up} {tv : TV} {id : Nat}
theorem Rel.drew (R : Rel P W0 M U st E Z a W) : Rel P W0 M U st E Z a W.drew := R.world (fun _ _ => rfl) (fun _ _ _ _ _ => rfl) (fun _ _ _ => rfl) (Nat.le_refl _) rfl rfl rfl
theorem Rel.noRow (R : Rel P W0 M U st E Z a W) {e : TypeId} {ks : List Kn} (hi : ¬ U id) (hks : Dy P e = some ks) (hp : P.cellsOf e ≠ 0) :
  Rel P W0 M (fun j => U j ∨ j = id) ⟨st.tm, put st.ob id (.arr e false []), st.base, st.nt⟩ (E.setRow id none 0) Z a W := by
 have hE : ∀ j, j ≠ id → (E.setRow id none 0).box j = E.box j ∧ (E.setRow id none 0).row j = E.row j ∧ (E.setRow id none 0).cap j = E.cap j := fun j hj => ⟨rfl, by simp [Env.setRow, hj], by simp [Env.setRow, hj]⟩
 refine R.add hi hE ?_ (fun e' rows' h => by cases h) (fun g hg => ?_)
 ·show Em P _ Z e [] ((E.setRow id none 0).row id) ((E.setRow id none 0).cap id)
  simp only [Env.setRow, if_true]
  exact ⟨Nat.le_refl _, Nat.zero_le _, ks, hks, Nat.pos_of_ne_zero hp, (fun r h => by cases h), (fun h => absurd h (Nat.lt_irrefl 0))⟩
 ·simp [Aw, Env.setRow] at hg
theorem Z9 {sz : Nat} {rows rows2 : List (List C)} {cur cur2 rest : List Value} (h : Fl P W Z sz rows cur) (hl : cur.length = rows.length * sz) (h2 : Fl P W Z sz rows2 cur2) : Fl P W Z sz (rows ++ rows2) (cur ++ cur2 ++ rest) := by
 refine ⟨?_, fun r hr => ?_, fun j r o x hj hr => ?_⟩
 ·have := h2.1
  simp only [List.length_append, Nat.add_mul]
  omega
 ·rcases List.mem_append.1 hr with h3 | h3
  ·exact h.2.1 r h3
  ·exact h2.2.1 r h3
 ·by_cases hjl : j < rows.length
  ·rw [List.getElem?_append_left hjl] at hj
   obtain ⟨u, h3, h4⟩ := h.2.2 j r o x hj hr
   have hlt := (List.getElem?_eq_some_iff.1 h3).1
   exact ⟨u, by rw [List.append_assoc, List.getElem?_append_left hlt]; exact h3, h4⟩
  ·rw [List.getElem?_append_right (by omega)] at hj
   obtain ⟨u, h3, h4⟩ := h2.2.2 _ r o x hj hr
   have hlt := (List.getElem?_eq_some_iff.1 h3).1
   refine ⟨u, ?_, h4⟩
   have e1 : j * sz + o - cur.length = (j - rows.length) * sz + o := by
    rw [hl, Nat.sub_mul]
    have : rows.length * sz ≤ j * sz := Nat.mul_le_mul_right _ (by omega)
    omega
   have h5 : cur.length ≤ j * sz + o := by
    rw [hl]
    have : rows.length * sz ≤ j * sz := Nat.mul_le_mul_right _ (by omega)
    omega
   rw [List.append_assoc, List.getElem?_append_right h5, e1, List.getElem?_append_left hlt]
   exact h3
theorem Ik {t t2 : TypeId} {s x : Operand} {v : Value} (ho : o.op = .call { callee := .builtin .append, args := #[s, x], argTypes := #[t, t2] }) (h : (Builtin.append_ #[t, t2] o.type #[a.eval s, a.eval x]).run P W = .ok v W') : (execOp a.eval o).run P W = .ok (.value v) W' := by
 simp [execOp, ho, resolve, invoke, builtin, h]
theorem Oo (R : Rel P W0 M U st E Z a W) (hi : ¬ U id) {e : TypeId} {z : Value} {ks : List Kn} {rows new : List (List C)} {olds news : List Value} {nc : Nat} (hks : Dy P e = some ks) (hp : P.cellsOf e ≠ 0) (hz : z.cells.size = P.cellsOf e) (hk : ∀ r, r ∈ rows ++ new → r.map C.kind = ks)
  (h1 : Fl P W Z (P.cellsOf e) rows olds) (h2 : olds.length = rows.length * P.cellsOf e) (h3 : Fl P W Z (P.cellsOf e) new news) (h4 : news.length = new.length * P.cellsOf e) (hc : rows.length + new.length ≤ nc) (hm : nc ≤ maxLen) :
  Rel P W0 M (fun j => U j ∨ j = id) ⟨st.tm, put st.ob id (.arr e false (rows ++ new)), st.base, st.nt⟩ (E.setRow id (some (W.heap.size, 0)) nc) Z a (W.drew.alloc (.cells (olds.toArray ++ news.toArray ++ Builtin.zeroCells z.cells (nc - (rows.length + new.length))) e)) := by
 have hsz : (olds.toArray ++ news.toArray ++ Builtin.zeroCells z.cells (nc - (rows.length + new.length))).size = nc * P.cellsOf e := by
  simp only [Array.size_append, List.size_toArray, size_zeroCells, hz, h2, h4, ← Nat.add_mul]
  congr 1
  omega
 refine R.drew.newRow (cur := olds.toArray ++ news.toArray ++ Builtin.zeroCells z.cells (nc - (rows.length + new.length))) hi hks hp hk (by simpa using hc) hm (by rw [hsz]; exact Nat.le_refl _) ?_
 have := (Z9 (rest := (Builtin.zeroCells z.cells (nc - (rows.length + new.length))).toList) h1 h2 h3).mono (W' := W.drew) (Z' := Z) (fun _ _ => rfl) (fun _ h => h)
 simpa using this
theorem Us (R : Rel P W0 M U st E Z a W) (hf : ∀ j, id ≤ j → j < id + 128 → ¬ U j) {t t2 e : TypeId} {s x : Operand} {i lo n : Nat} {rows new : List (List C)} {ids rd : List Nat} {z : List C}
  (ho : o.op = .call { callee := .builtin .append, args := #[s, x], argTypes := #[t, t2] }) (hsl : Ej P t e = true) (hz : Ho P e = some z) (hx : Ha P st e t2 x = some (new, ids)) (hl : Aa st.ob i = some (.arr e false rows)) (hlo : lo + n ≤ rows.length)
  (hs : Slc (E.row i) (E.cap i) (P.cellsOf e) lo n (a.eval s)) (hr : C6 P e (n + new.length) = true) :
  D2 P W0 M U id E Z st a W o ⟨.one (.arr id), [(i, none), (id, some (.arr e false ((rows.drop lo).take n ++ new)))], rd⟩ := by
 obtain ⟨hd, hp⟩ := F1 hsl
 obtain ⟨inf, zv, ks, g1, g2, g3, g4, g5, g6, g7⟩ := Ms hz
 obtain ⟨a1, a2, news, a3, a4, a5, a6, a7⟩ := Ol R g3 hp hx
 obtain ⟨b1, b2⟩ := K0 hr
 rw [M8 g1] at b1
 have hrs := K5 R hl hlo hs
 obtain ⟨A', c', olds, c1, c2, c3, c4, c5, c6, c7, c8⟩ := Nz g3 hp hrs
 have hrl : ((rows.drop lo).take n).length = n := by simp; omega
 have hin : ¬ (id = i) := fun e => by
  have := R.ids i _ hl
  rw [← e] at this
  exact Fi hf this
 have Fa : Am st.ob [(i, none), (id, some (.arr e false ((rows.drop lo).take n ++ new)))] = put (Vm.del st.ob i) id (.arr e false ((rows.drop lo).take n ++ new)) := rfl
 have hkk : ∀ r, r ∈ (rows.drop lo).take n ++ new → r.map C.kind = ks := fun r hr => by
  rcases List.mem_append.1 hr with h | h
  ·exact c5 r h
  ·exact a4 r h
 have RD := R.del i
 obtain ⟨s1, A, s2, s3⟩ := hs
 rw [hrl] at c4 c8 c2
 by_cases hfit : n + new.length ≤ E.cap i - lo
 ·have hrun := P5 (P := P) (W := W) (t := t) (t2 := t2) (ty := o.type) (A := A) (n := n) (cap := E.cap i - lo) hd hp a1 a2 (a7 W rfl) hfit
  by_cases hc0 : 0 < E.cap i - lo
  ·obtain ⟨g, off, s4, rfl⟩ := s3 hc0
   obtain ⟨r1, r2, ks', r3, r4, r5, r6⟩ := R.ob i _ hl
   rw [g3] at r3
   cases r3
   obtain ⟨g', off', cur, r7, r8, r9, r10⟩ := r6 (by omega)
   rw [s4] at r7
   cases r7
   have hci : 0 < E.cap i := Nat.lt_of_lt_of_le hc0 (Nat.sub_le _ _)
   have hbi : Aw E i (.arr e false rows) = some g := by simp [Aw, s4, hci]
   have hcapm : (E.cap i - lo) * P.cellsOf e + lo * P.cellsOf e = E.cap i * P.cellsOf e := by rw [← Nat.add_mul, Nat.sub_add_cancel (Nat.le_trans (Nat.le_add_right lo n) s1)]
   have hnm : (n + new.length) * P.cellsOf e ≤ (E.cap i - lo) * P.cellsOf e := Nat.mul_le_mul_right _ hfit
   rw [Nat.add_mul] at hnm
   have hst := run_storeCells_at P g (off + lo * P.cellsOf e + n * P.cellsOf e) e news 0 cur W r8 (by rw [a3]; omega) a6
   simp only [Nat.add_zero] at hst
   generalize hcur' : (cur.toList.take (off + lo * P.cellsOf e + n * P.cellsOf e) ++ news ++ cur.toList.drop (off + lo * P.cellsOf e + n * P.cellsOf e + news.length)).toArray = cur' at hst
   have hcl : cur'.size = cur.size := by
    rw [← hcur']
    simp
    omega
   obtain ⟨k1, k2, k3, k4, k5⟩ := N5 W g cur'
   have RW : Rel P W0 M U ⟨st.tm, Vm.del st.ob i, st.base, st.nt⟩ E Z a (W.setRow g cur') := by
    refine RD.world (fun A hA => Gp (k1 _ (R.free i _ _ hl hbi (fun e rows h => by cases h) A hA))) (fun j p h hj hg => k1 h (fun e => ?_)) (fun k hk hM => k1 k (fun e => ?_)) (Nat.le_of_eq k2.symm) k3 k4 k5
    ·subst e
     have hj' : Aa (Vm.del st.ob i) j = some p := hj
     rw [Gr] at hj'
     split at hj'
     ·cases hj'
     ·rename_i hne
      exact hne (R.inj j i p _ _ hj' hl hg hbi)
    ·subst e
     rcases R.own i _ _ hl hbi with h | h
     ·exact hM h
     ·omega
   have hE : ∀ j, j ≠ id → (E.setRow id (some (g, off + lo * P.cellsOf e)) (E.cap i - lo)).box j = E.box j ∧ (E.setRow id (some (g, off + lo * P.cellsOf e)) (E.cap i - lo)).row j = E.row j ∧ (E.setRow id (some (g, off + lo * P.cellsOf e)) (E.cap i - lo)).cap j = E.cap j := fun j hj => ⟨rfl, by simp [Env.setRow, hj], by simp [Env.setRow, hj]⟩
   have RA : Rel P W0 M (fun j => U j ∨ j = id) ⟨st.tm, put (Vm.del st.ob i) id (.arr e false ((rows.drop lo).take n ++ new)), st.base, st.nt⟩ (E.setRow id (some (g, off + lo * P.cellsOf e)) (E.cap i - lo)) Z a (W.setRow g cur') := by
    refine RW.add (Fi hf) hE ?_ (fun e' rows' h => by cases h) (fun q hq => ?_)
    ·show Em P _ Z e _ ((E.setRow id (some (g, off + lo * P.cellsOf e)) (E.cap i - lo)).row id) ((E.setRow id (some (g, off + lo * P.cellsOf e)) (E.cap i - lo)).cap id)
     simp only [Env.setRow, if_true]
     refine ⟨by simp only [List.length_append, hrl]; exact hfit, by omega, ks, g3, by omega, hkk, fun _ => ⟨g, off + lo * P.cellsOf e, cur', rfl, setRow_heap W g cur cur' e (0, 0) r8, by rw [hcl]; omega, fun j r o' y hj hy => ?_⟩⟩
     have hzw : ∀ A, Z A → (W.setRow g cur').cell? A = W.cell? A := fun A hA => Gp (k1 _ (R.free i _ _ hl hbi (fun e rows h => by cases h) A hA))
     have hol : o' < P.cellsOf e := by rw [← H8 g3 (hkk r (List.mem_of_getElem? hj))]; exact (List.getElem?_eq_some_iff.1 hy).1
     by_cases hjn : j < n
     ·rw [List.getElem?_append_left (by omega)] at hj
      have hj' : rows[lo + j]? = some r := by
       rw [List.getElem?_take, if_pos hjn, List.getElem?_drop] at hj
       exact hj
      obtain ⟨w, w1, w2⟩ := r10 _ r o' y hj' hy
      refine ⟨w, ?_, w2.mono hzw (fun _ h => h)⟩
      have hlt := L1 hjn hol
      have e1 : off + lo * P.cellsOf e + j * P.cellsOf e + o' = off + (lo + j) * P.cellsOf e + o' := by rw [Nat.add_mul]; omega
      rw [← hcur', e1]
      have e2 : off + (lo + j) * P.cellsOf e + o' < off + lo * P.cellsOf e + n * P.cellsOf e := by rw [Nat.add_mul]; omega
      have hwl := (Array.getElem?_eq_some_iff.1 w1).1
      simp only [List.getElem?_toArray]
      rw [List.append_assoc, List.getElem?_append_left (by simp; omega), List.getElem?_take, if_pos e2]
      simpa using w1
     ·rw [List.getElem?_append_right (by omega), hrl] at hj
      obtain ⟨w, w1, w2⟩ := a5.2.2 _ r o' y hj hy
      refine ⟨w, ?_, w2.mono hzw (fun _ h => h)⟩
      have hwl := (List.getElem?_eq_some_iff.1 w1).1
      have e1 : off + lo * P.cellsOf e + j * P.cellsOf e + o' = off + lo * P.cellsOf e + n * P.cellsOf e + ((j - n) * P.cellsOf e + o') := by
       rw [Nat.sub_mul]
       have : n * P.cellsOf e ≤ j * P.cellsOf e := Nat.mul_le_mul_right _ (by omega)
       omega
      rw [← hcur', e1]
      simp only [List.getElem?_toArray]
      have hlen0 : (cur.toList.take (off + lo * P.cellsOf e + n * P.cellsOf e)).length = off + lo * P.cellsOf e + n * P.cellsOf e := by simp; omega
      rw [List.append_assoc, List.getElem?_append_right (by omega), hlen0, Nat.add_sub_cancel_left, List.getElem?_append_left hwl]
      exact w1
    ·simp [Aw, Env.setRow, hc0] at hq
     subst hq
     refine ⟨R.free i _ _ hl hbi (fun e rows h => by cases h), R.own i _ _ hl hbi, fun j p hj hb => ?_⟩
     have hj' : Aa (Vm.del st.ob i) j = some p := hj
     rw [Gr] at hj'
     split at hj'
     ·cases hj'
     ·rename_i hne
      exact hne (R.inj j i p _ _ hj' hl hb hbi)
   refine Hd (id := id) (e := e) (rows := (rows.drop lo).take n ++ new) (cap := 0) (r := .skip) (v := .slice (some ⟨g, off + lo * P.cellsOf e, none⟩) (n + new.length) (E.cap i - lo)) (W1 := W.setRow g cur') ?_ (by rw [Fa]; exact RA) (by rw [Fa, D8, if_pos rfl]) ?_ (fun _ h => h) (fun _ h => .inl h) (fun _ _ => by rfl)
   ·refine Ik ho ?_
    rw [s2, hrun]
    simp only
    rw [E9, hst]
    rfl
   ·simp only [Env.setRow, if_true, List.length_append, hrl]
    exact ⟨by omega, _, rfl, fun _ => ⟨_, _, rfl, by simp⟩⟩
  ·have hn0 : n = 0 := by omega
   have hm0 : new.length = 0 := by omega
   have hnew0 : new = [] := List.eq_nil_of_length_eq_zero hm0
   have hnews0 : news = [] := List.eq_nil_of_length_eq_zero (by rw [a3, hm0]; simp)
   subst hn0 hnew0 hnews0
   have hcap0 : E.cap i - lo = 0 := by omega
   have RN := RD.noRow (id := id) (Fi hf) g3 hp
   have e0 : (rows.drop lo).take 0 ++ [] = ([] : List (List C)) := by simp
   rw [e0] at Fa ⊢
   refine Hd (id := id) (e := e) (rows := []) (cap := 0) (r := .skip) (v := .slice A 0 0) (W1 := W) ?_ (by rw [Fa]; exact RN) (by rw [Fa, D8, if_pos rfl]) ?_ (fun _ h => h) (fun _ h => .inl h) (fun _ _ => by rfl)
   ·refine Ik ho ?_
    rw [s2, hrun, hcap0]
    cases A <;> simp [storeCells]
   ·simp only [Env.setRow, if_true]
    exact ⟨Nat.le_refl _, A, rfl, fun h => absurd h (by omega)⟩
 ·rw [s2] at c1 c8
  obtain ⟨nc, n1, n2, n3⟩ := P6 (P := P) (W := W) (t := t) (t2 := t2) (ty := o.type) (A := A) (n := n) (cap := E.cap i - lo) hd g1 g2 hp a1 a2 a7 c8 hfit b1 b2
  have RA := Oo (id := id) RD (Fi hf) g3 hp g5 hkk c6 (by rw [hrl]; exact c4) a5 a3 (by rw [hrl]; exact n1) n2
  rw [hrl] at RA
  refine Hd (id := id) (e := e) (rows := (rows.drop lo).take n ++ new) (cap := nc) (r := .skip) (v := .slice (some ⟨W.heap.size, 0, none⟩) (n + new.length) nc) ?_ (by rw [Fa]; exact RA) (by rw [Fa, D8, if_pos rfl]) ?_ (fun _ h => h) (fun _ h => .inl h) (fun _ _ => by rfl)
  ·refine Ik ho ?_
   rw [s2, n3]
  ·simp only [Env.setRow, if_true, List.length_append, hrl]
   exact ⟨by omega, _, rfl, fun _ => ⟨_, _, rfl, by simp⟩⟩
end Go.Vm
namespace Go.Vm
open Go
variable {P : Program} {W0 W W' : World} {M U U' : Nat → Prop} {st : St} {E E' : Env} {Z Z' : Addr → Prop} {a : Act} {ob ob' : List (Nat × Ob)} {o : Oper} {u : Up} {tv : TV} {id : Nat}
theorem Ack (R : Rel P W0 M U st E Z a W) (hf : ∀ j, id ≤ j → j < id + 128 → ¬ U j) {t t2 e : TypeId} {s x : Operand} {new : List (List C)} {ids rd : List Nat} {z : List C}
  (ho : o.op = .call { callee := .builtin .append, args := #[s, x], argTypes := #[t, t2] }) (hsl : Ej P t e = true) (hz : Ho P e = some z) (hx : Ha P st e t2 x = some (new, ids)) (hs : a.eval s = .slice none 0 0) (hr : C6 P e new.length = true) :
  D2 P W0 M U id E Z st a W o ⟨.one (.arr id), [(id, some (.arr e false new))], rd⟩ := by
 obtain ⟨hd, hp⟩ := F1 hsl
 obtain ⟨inf, zv, ks, g1, g2, g3, g4, g5, g6, g7⟩ := Ms hz
 obtain ⟨a1, a2, news, a3, a4, a5, a6, a7⟩ := Ol R g3 hp hx
 obtain ⟨b1, b2⟩ := K0 hr
 rw [M8 g1] at b1
 by_cases hm : new.length = 0
 ·have hnew0 : new = [] := List.eq_nil_of_length_eq_zero hm
  have hnews0 : news = [] := List.eq_nil_of_length_eq_zero (by rw [a3, hm]; simp)
  subst hnew0 hnews0
  have hrun := P5 (P := P) (W := W) (t := t) (t2 := t2) (ty := o.type) (A := none) (n := 0) (cap := 0) hd hp a1 a2 (a7 W rfl) (by simp)
  have RN := R.noRow (id := id) (Fi hf) g3 hp
  refine Hd (id := id) (e := e) (rows := []) (cap := 0) (r := .skip) (v := .slice none 0 0) (W1 := W) ?_ RN (by simp only [Am]; rw [D8, if_pos rfl]) ?_ (fun _ h => h) (fun _ h => .inl h) (fun _ _ => by rfl)
  ·refine Ik ho ?_
   rw [hs, hrun]
   simp
  ·simp only [Env.setRow, if_true]
   exact ⟨Nat.le_refl _, none, rfl, fun h => absurd h (by omega)⟩
 ·obtain ⟨nc, n1, n2, n3⟩ := P6 (P := P) (W := W) (t := t) (t2 := t2) (ty := o.type) (A := none) (n := 0) (cap := 0) (olds := []) hd g1 g2 hp a1 a2 a7 (fun W2 _ => by simp [Builtin.firstCells]) (by omega) (by rw [Nat.zero_add]; exact b1) (by rw [Nat.zero_add]; exact b2)
  have RA := Oo (id := id) (rows := []) (olds := []) R (Fi hf) g3 hp g5 (by simpa using a4) ⟨by simp, (fun r h => by cases h), (fun j r o x h => by simp at h)⟩ (by simp) a5 a3 (by simpa using n1) n2
  simp only [List.nil_append, List.length_nil, Nat.zero_add] at RA n1 n3
  refine Hd (id := id) (e := e) (rows := new) (cap := nc) (r := .skip) (v := .slice (some ⟨W.heap.size, 0, none⟩) new.length nc) ?_ RA (by simp only [Am]; rw [D8, if_pos rfl]) ?_ (fun _ h => h) (fun _ h => .inl h) (fun _ _ => by rfl)
  ·refine Ik ho ?_
   rw [hs, n3]
  ·simp only [Env.setRow, if_true]
   exact ⟨by omega, _, rfl, fun _ => ⟨_, _, rfl, by simp⟩⟩
theorem Vg {α : Type} (l : List (Nat × α)) (i : Nat) (x y : α) : put (put l i x) i y = put l i y := by
 induction l with
 | nil => simp [put, Nat.beq_refl]
 | cons p l ih =>
  obtain ⟨j, z⟩ := p
  by_cases h : i = j
  ·have e : Nat.beq i j = true := Jf h
   simp only [put, e, Nat.beq_refl]
  ·have e : Nat.beq i j = false := Lo h
   simp only [put, e, ih]
theorem Acj (R : Rel P W0 M U st E Z a W) (hf : ∀ j, id ≤ j → j < id + 128 → ¬ U j) {t t2 e : TypeId} {s x : Operand} {i : Nat} {rows new : List (List C)} {ids rd : List Nat} {z : List C}
  (ho : o.op = .call { callee := .builtin .append, args := #[s, x], argTypes := #[t, t2] }) (hsl : Ej P t e = true) (hz : Ho P e = some z) (hx : Ha P st e t2 x = some (new, ids)) (hl : Aa st.ob i = some (.arr e true rows))
  (hs : Slc (E.row i) (E.cap i) (P.cellsOf e) 0 rows.length (a.eval s)) (hr : C6 P e (rows.length + new.length) = true) :
  D2 P W0 M U id E Z st a W o ⟨.one (.arr id), [(i, none), (id, some (.arr e true (rows ++ new)))], rd⟩ := by
 obtain ⟨hd, hp⟩ := F1 hsl
 obtain ⟨inf, zv, ks, g1, g2, g3, g4, g5, g6, g7⟩ := Ms hz
 obtain ⟨a1, a2, news, a3, a4, a5, a6, a7⟩ := Ol R g3 hp hx
 obtain ⟨b1, b2⟩ := K0 hr
 rw [M8 g1] at b1
 have hrs := K5 R (lo := 0) (n := rows.length) hl (by omega) hs
 have hdt : (rows.drop 0).take rows.length = rows := by simp
 rw [hdt] at hrs
 obtain ⟨A', c', olds, c1, c2, c3, c4, c5, c6, c7, c8⟩ := Nz g3 hp hrs
 have hin : ¬ (id = i) := fun e => by
  have := R.ids i _ hl
  rw [← e] at this
  exact Fi hf this
 have Fa : Am st.ob [(i, none), (id, some (.arr e true (rows ++ new)))] = put (Vm.del st.ob i) id (.arr e true (rows ++ new)) := rfl
 have hkk : ∀ r, r ∈ rows ++ new → r.map C.kind = ks := fun r hr => by
  rcases List.mem_append.1 hr with h | h
  ·exact c5 r h
  ·exact a4 r h
 have RD := R.del i
 obtain ⟨s1, A, s2, s3⟩ := hs
 simp only [Nat.zero_add, Nat.sub_zero, Nat.zero_mul, Nat.add_zero] at s1 s2 s3
 by_cases hfit : rows.length + new.length ≤ E.cap i
 ·have hrun := P5 (P := P) (W := W) (t := t) (t2 := t2) (ty := o.type) (A := A) (n := rows.length) (cap := E.cap i) hd hp a1 a2 (a7 W rfl) hfit
  by_cases hc0 : 0 < E.cap i
  ·obtain ⟨g, off, s4, rfl⟩ := s3 hc0
   obtain ⟨r1, r2, ks', r3, r4, r5, r6⟩ := R.ob i _ hl
   rw [g3] at r3
   cases r3
   obtain ⟨g', off', cur, r7, r8, r9, r10⟩ := r6 hc0
   rw [s4] at r7
   cases r7
   have hbi : Aw E i (.arr e true rows) = some g := by simp [Aw, s4, hc0]
   obtain ⟨q1, q2⟩ := R.frz i e rows g off hl hc0 s4
   have hnm : (rows.length + new.length) * P.cellsOf e ≤ E.cap i * P.cellsOf e := Nat.mul_le_mul_right _ hfit
   rw [Nat.add_mul] at hnm
   have hst := run_storeCells_at P g (off + rows.length * P.cellsOf e) e news 0 cur W r8 (by rw [a3]; omega) a6
   simp only [Nat.add_zero] at hst
   generalize hcur' : (cur.toList.take (off + rows.length * P.cellsOf e) ++ news ++ cur.toList.drop (off + rows.length * P.cellsOf e + news.length)).toArray = cur' at hst
   have hcl : cur'.size = cur.size := by
    rw [← hcur']
    simp
    omega
   have hpre : ∀ m, m < off + rows.length * P.cellsOf e → cur'[m]? = cur[m]? := fun m hm => by
    rw [← hcur']
    simp only [List.getElem?_toArray]
    rw [List.append_assoc, List.getElem?_append_left (by simp; omega), List.getElem?_take, if_pos hm]
    simp
   obtain ⟨k1, k2, k3, k4, k5⟩ := N5 W g cur'
   have hgw : (W.setRow g cur').heap[g]? = some (.cells cur' e (0, 0)) := setRow_heap W g cur cur' e (0, 0) r8
   have hzw : ∀ B, Z B → (W.setRow g cur').cell? B = W.cell? B := fun B hB => by
    by_cases hb : B.block = g
    ·have hlt := q2 B hB hb
     unfold World.cell?
     rw [hb, hgw, r8]
     simp only
     split
     ·rfl
     ·exact hpre _ hlt
    ·exact Gp (k1 _ hb)
   have hne : ∀ j p, Aa (Vm.del st.ob i) j = some p → Aw E j p ≠ some g := fun j p hj hg => by
    rw [Gr] at hj
    split at hj
    ·cases hj
    ·rename_i hne
     exact hne (R.inj j i p _ _ hj hl hg hbi)
   have RW : Rel P W0 M U ⟨st.tm, Vm.del st.ob i, st.base, st.nt⟩ E Z a (W.setRow g cur') := by
    refine RD.world hzw (fun j p h hj hg => k1 h (fun e => hne j p hj (e ▸ hg))) (fun k hk hM => k1 k (fun e => ?_)) (Nat.le_of_eq k2.symm) k3 k4 k5
    subst e
    rcases R.own i _ _ hl hbi with h | h
    ·exact hM h
    ·omega
   have RZ := RW.moreZ (Z' := fun B => Z B ∨ (B.block = g ∧ B.spot = none ∧ off ≤ B.off ∧ B.off < off + (rows ++ new).length * P.cellsOf e)) (fun _ h => .inl h) (fun B hB => by
     rcases hB with hB | ⟨hB, _⟩
     ·have := R.zlt B hB
      rw [k2]
      exact this
     ·rw [hB, k2]
      exact R.lt hl hbi) (fun j p c hj hc B hB hBc => by
     rcases hB with hB | ⟨hB, _⟩
     ·exact hB
     ·exact absurd (by rw [← hBc, hB] at hc; exact hc) (hne j p hj))
   have hE : ∀ j, j ≠ id → (E.setRow id (some (g, off)) (E.cap i)).box j = E.box j ∧ (E.setRow id (some (g, off)) (E.cap i)).row j = E.row j ∧ (E.setRow id (some (g, off)) (E.cap i)).cap j = E.cap j := fun j hj => ⟨rfl, by simp [Env.setRow, hj], by simp [Env.setRow, hj]⟩
   have RA := RZ.addG (st := ⟨st.tm, Vm.del st.ob i, st.base, st.nt⟩) (i := id) (o := .arr e true (rows ++ new)) (E' := E.setRow id (some (g, off)) (E.cap i)) (Fi hf) hE (by
     show Em P _ _ e _ ((E.setRow id (some (g, off)) (E.cap i)).row id) ((E.setRow id (some (g, off)) (E.cap i)).cap id)
     simp only [Env.setRow, if_true]
     refine ⟨by simp only [List.length_append]; exact hfit, by omega, ks, g3, by omega, hkk, fun _ => ⟨g, off, cur', rfl, hgw, by rw [hcl]; omega, fun j r o' y hj hy => ?_⟩⟩
     have hol : o' < P.cellsOf e := by rw [← H8 g3 (hkk r (List.mem_of_getElem? hj))]; exact (List.getElem?_eq_some_iff.1 hy).1
     by_cases hjn : j < rows.length
     ·rw [List.getElem?_append_left hjn] at hj
      obtain ⟨w, w1, w2⟩ := r10 _ r o' y hj hy
      have hlt := L1 hjn hol
      exact ⟨w, by rw [hpre _ (by omega)]; exact w1, w2.mono hzw (fun _ h => .inl h)⟩
     ·rw [List.getElem?_append_right (by omega)] at hj
      obtain ⟨w, w1, w2⟩ := a5.2.2 _ r o' y hj hy
      refine ⟨w, ?_, w2.mono hzw (fun _ h => .inl h)⟩
      have hwl := (List.getElem?_eq_some_iff.1 w1).1
      have e1 : off + j * P.cellsOf e + o' = off + rows.length * P.cellsOf e + ((j - rows.length) * P.cellsOf e + o') := by
       rw [Nat.sub_mul]
       have : rows.length * P.cellsOf e ≤ j * P.cellsOf e := Nat.mul_le_mul_right _ (by omega)
       omega
      rw [← hcur', e1]
      simp only [List.getElem?_toArray]
      have hlen0 : (cur.toList.take (off + rows.length * P.cellsOf e)).length = off + rows.length * P.cellsOf e := by simp; omega
      rw [List.append_assoc, List.getElem?_append_right (by omega), hlen0, Nat.add_sub_cancel_left, List.getElem?_append_left hwl]
      exact w1) (fun h => absurd rfl (h e _)) (fun e' rows' g' off' he hc hp' => by
     cases he
     simp only [Env.setRow, if_true, Option.some.injEq, Prod.mk.injEq] at hp'
     obtain ⟨rfl, rfl⟩ := hp'
     refine ⟨fun m hm => .inr ⟨rfl, rfl, Nat.le_add_right _ _, by show off + m < _; omega⟩, fun B hB hBg => ?_⟩
     rcases hB with hB | ⟨_, _, _, hB⟩
     ·have := q2 B hB hBg
      have : rows.length * P.cellsOf e ≤ (rows ++ new).length * P.cellsOf e := Nat.mul_le_mul_right _ (by simp)
      omega
     ·exact hB) (fun c hc => by
     simp [Aw, Env.setRow, hc0] at hc
     subst hc
     exact ⟨R.own i _ _ hl hbi, fun j p hj => hne j p hj⟩)
   rw [← Fa] at RA
   refine Hd (id := id) (e := e) (rows := rows ++ new) (cap := 0) (r := .skip) (v := .slice (some ⟨g, off, none⟩) (rows.length + new.length) (E.cap i)) (W1 := W.setRow g cur') ?_ RA (by rw [Fa, D8, if_pos rfl]) ?_ (fun _ h => .inl h) (fun B hB => ?_) (fun _ _ => by rfl)
   ·refine Ik ho ?_
    rw [s2, hrun]
    simp only
    rw [E9, hst]
    rfl
   ·simp only [Env.setRow, if_true, List.length_append]
    exact ⟨by omega, _, rfl, fun _ => ⟨_, _, rfl, by simp⟩⟩
   ·rcases hB with hB | ⟨hB, _⟩
    ·exact .inl hB
    ·rw [hB]; exact .inr (R.own i _ _ hl hbi)
  ·have hn0 : rows.length = 0 := by omega
   have hm0 : new.length = 0 := by omega
   have hrows0 : rows = [] := List.eq_nil_of_length_eq_zero hn0
   have hnew0 : new = [] := List.eq_nil_of_length_eq_zero hm0
   have hnews0 : news = [] := List.eq_nil_of_length_eq_zero (by rw [a3, hm0]; simp)
   subst hrows0 hnew0 hnews0
   have hcap0 : E.cap i = 0 := by omega
   have RN := (RD.noRow (id := id) (Fi hf) g3 hp).freeze1 (i := id) (e := e) (f := false) (rows := []) (by show Aa (put (Vm.del st.ob i) id _) id = _; rw [D8, if_pos rfl])
   rw [Vg] at RN
   simp only [List.append_nil] at Fa ⊢
   rw [← Fa] at RN
   refine Hd (id := id) (e := e) (rows := []) (cap := 0) (r := .skip) (v := .slice A 0 0) (W1 := W) ?_ RN (by rw [Fa, D8, if_pos rfl]) ?_ (fun _ h => .inl h) (fun B hB => ?_) (fun _ _ => by rfl)
   ·refine Ik ho ?_
    simp only [List.length_nil, Nat.add_zero] at hrun s2
    rw [s2, hrun, hcap0]
    cases A <;> simp [storeCells]
   ·simp only [Env.setRow, if_true]
    exact ⟨Nat.le_refl _, A, rfl, fun h => absurd h (by omega)⟩
   ·rcases hB with hB | ⟨hB, _⟩
    ·exact .inl hB
    ·simp [Env.setRow] at hB
 ·rw [s2] at c1 c8
  obtain ⟨nc, n1, n2, n3⟩ := P6 (P := P) (W := W) (t := t) (t2 := t2) (ty := o.type) (A := A) (n := rows.length) (cap := E.cap i) hd g1 g2 hp a1 a2 a7 c8 hfit b1 b2
  have RA := (Oo (id := id) RD (Fi hf) g3 hp g5 hkk c6 c4 a5 a3 n1 n2).freeze1 (i := id) (e := e) (f := false) (rows := rows ++ new) (by show Aa (put (Vm.del st.ob i) id _) id = _; rw [D8, if_pos rfl])
  rw [Vg, ← Fa] at RA
  refine Hd (id := id) (e := e) (rows := rows ++ new) (cap := nc) (r := .skip) (v := .slice (some ⟨W.heap.size, 0, none⟩) (rows.length + new.length) nc) ?_ RA (by rw [Fa, D8, if_pos rfl]) ?_ (fun _ h => .inl h) (fun B hB => ?_) (fun _ _ => by rfl)
  ·refine Ik ho ?_
   rw [s2, n3]
  ·simp only [Env.setRow, if_true, List.length_append]
   exact ⟨by omega, _, rfl, fun _ => ⟨_, _, rfl, by simp⟩⟩
  ·rcases hB with hB | ⟨_, g, off, h1, h2, _⟩
   ·exact .inl hB
   ·simp only [Env.setRow, if_true, Option.some.injEq, Prod.mk.injEq] at h1
    obtain ⟨rfl, rfl⟩ := h1
    rw [h2]
    exact .inr (.inr R.size)
theorem Acl (R : Rel P W0 M U st E Z a W) (hf : ∀ j, id ≤ j → j < id + 128 → ¬ U j) {t t2 : TypeId} {s x : Operand} (ho : o.op = .call { callee := .builtin .append, args := #[s, x], argTypes := #[t, t2] }) (h : H4 some P st id t t2 s x = some u) : D2 P W0 M U id E Z st a W o u := by
 unfold H4 at h
 split at h
 ·rename_i z new ids hsl hz hx
  split at h
  ·rename_i e' hs
   split at h
   ·rename_i hr
    cases h
    have hv := G6 R hs
    generalize hv' : a.eval s = w at hv
    cases hv with
    | one hv =>
     cases (show Ae P W Z (.nil e') w from hv)
     exact Ack R hf ho hsl hz hx hv' hr
   ·cases h
  ·rename_i i hs
   split at h
   ·rename_i e' fz rows hl
    split at h
    ·rename_i hb
     have hb := Nat.eq_of_beq_eq_true hb
     split at h
     ·rename_i hr
      cases h
      have hv := G6 R hs
      generalize hv' : a.eval s = w at hv
      cases hv with
      | one hv =>
       rw [hb] at hsl hz hx
       have hslc := hv.2.2 e' fz rows hl
       rw [← hv'] at hslc
       cases fz with
       | false =>
        have := Us (rd := i :: ids) (lo := 0) (n := rows.length) R hf ho hsl hz hx hl (by omega) hslc hr
        simpa using this
       | true => exact Acj (rd := i :: ids) R hf ho hsl hz hx hl hslc hr
     ·cases h
    ·cases h
   ·cases h
  ·rename_i i lo n hs
   split at h
   ·rename_i e' rows hl
    split at h
    ·rename_i hb
     have hb := Nat.eq_of_beq_eq_true hb
     split at h
     ·rename_i hr
      cases h
      have hv := G6 R hs
      generalize hv' : a.eval s = w at hv
      cases hv with
      | one hv =>
       rw [hb] at hsl hz hx
       obtain ⟨h1, hslc⟩ := hv.2.2 e' false rows hl
       rw [← hv'] at hslc
       exact Us (rd := i :: ids) R hf ho hsl hz hx hl h1 hslc hr
     ·cases h
    ·cases h
   ·cases h
  ·cases h
 ·cases h
theorem Aaf {ids : List Nat} : ∀ {ob : List (Nat × Ob)} {i : Nat}, i ∉ ids → Aa (Am ob (st.freeze ids)) i = Aa ob i := by
 induction ids with
 | nil => intro ob i _; rfl
 | cons j ids ih =>
  intro ob i hi
  simp only [St.freeze]
  have hij : i ≠ j := fun e => hi (by rw [e]; exact List.mem_cons_self)
  have hi' : i ∉ ids := fun h => hi (List.mem_cons_of_mem _ h)
  split
  ·simp only [Am]
   rw [ih hi', D8, if_neg hij]
  ·exact ih hi'
theorem Ahn {S : C → Value → Prop} : ∀ {vc : List C} {us : List Value}, Aq S vc us → ∀ (l : List C) (cur : List Value) (off : Nat), Aq S l cur → off + vc.length ≤ l.length → Aq S (Gi l off vc) (cur.take off ++ us ++ cur.drop (off + us.length)) := by
 intro vc us h
 induction h with
 | nil => intro l cur off h _; simpa [Gi] using h
 | @cons x y vc us h1 h2 ih =>
  intro l cur off h hlen
  simp only [List.length_cons] at hlen
  have := ih (l.set off x) (cur.set off y) (off + 1) (h.set h1 off) (by simp; omega)
  have hl := h.length
  have e : (cur.set off y).take (off + 1) ++ us ++ (cur.set off y).drop (off + 1 + us.length) = cur.take off ++ (y :: us) ++ cur.drop (off + (y :: us).length) := by
   have hlt : off < cur.length := by omega
   have h3 : (cur.set off y).take (off + 1) = cur.take off ++ [y] := by
    rw [List.take_succ_eq_append_getElem (by simpa using hlt)]
    simp [List.take_set_of_le]
   have h4 : (cur.set off y).drop (off + 1 + us.length) = cur.drop (off + (y :: us).length) := by
    rw [List.drop_set_of_lt (by omega)]
    simp [Nat.add_assoc, Nat.add_comm 1]
   rw [h3, h4]
   simp
  rw [e] at this
  exact this
theorem Afo : ∀ (cs l : List C) (off : Nat), off + cs.length ≤ l.length → ((l.map C.kind).drop off).take cs.length = cs.map C.kind → (Gi l off cs).map C.kind = l.map C.kind ∧ (Gi l off cs).length = l.length := by
 intro cs
 induction cs with
 | nil => intro l off _ _; exact ⟨rfl, rfl⟩
 | cons x cs ih =>
  intro l off hl hk
  simp only [List.length_cons] at hl hk
  have hlt : off < (l.map C.kind).length := by simp; omega
  rw [List.drop_eq_getElem_cons hlt] at hk
  simp only [List.take_succ_cons, List.map_cons, List.cons.injEq] at hk
  have Fa : (l.set off x).map C.kind = l.map C.kind := by
   apply List.ext_getElem
   ·simp
   ·intro j h1 h2
    simp only [List.getElem_map, List.getElem_set]
    split
    ·rename_i e
     subst e
     rw [← hk.1]
     simp
    ·rfl
  obtain ⟨h1, h2⟩ := ih (l.set off x) (off + 1) (by simp; omega) (by rw [Fa]; exact hk.2)
  exact ⟨by rw [Gi, h1, Fa], by rw [Gi, h2]; simp⟩
end Go.Vm
namespace Go.Vm
open Go
variable {P : Program} {W0 W W' : World} {M U U' : Nat → Prop} {st : St} {E E' : Env} {Z Z' : Addr → Prop} {a : Act} {ob ob' : List (Nat × Ob)} {o : Oper} {u : Up} {tv : TV} {id : Nat}
theorem Afn : ∀ (cs l : List C) (off k : Nat), off + cs.length ≤ l.length → (Gi l off cs)[k]? = if off ≤ k ∧ k < off + cs.length then cs[k - off]? else l[k]? := by
 intro cs
 induction cs with
 | nil => intro l off k _; rw [Gi, if_neg (by simp only [List.length_nil]; omega)]
 | cons x cs ih =>
  intro l off k hl
  simp only [List.length_cons] at hl ⊢
  rw [Gi, ih (l.set off x) (off + 1) k (by simp; omega), List.getElem?_set]
  by_cases h1 : off = k
  ·subst h1
   rw [if_neg (by omega), if_pos rfl, if_pos (by omega), if_pos (by omega), Nat.sub_self]
   rfl
  ·rw [if_neg h1]
   by_cases h2 : off + 1 ≤ k ∧ k < off + 1 + cs.length
   ·rw [if_pos h2, if_pos (by omega), show k - off = (k - (off + 1)) + 1 by omega]
    rfl
   ·rw [if_neg h2, if_neg (by omega)]
theorem Abz {α : Type} (cur us : List α) (p k : Nat) (h : p + us.length ≤ cur.length) : (cur.take p ++ us ++ cur.drop (p + us.length))[k]? = if p ≤ k ∧ k < p + us.length then us[k - p]? else cur[k]? := by
 have h1 : (cur.take p).length = p := by simp; omega
 by_cases h2 : k < p
 ·rw [List.append_assoc, List.getElem?_append_left (by omega), List.getElem?_take, if_pos h2, if_neg (by omega)]
 ·by_cases h3 : k < p + us.length
  ·rw [List.append_assoc, List.getElem?_append_right (by omega), h1, List.getElem?_append_left (by omega), if_pos (by omega)]
  ·rw [List.getElem?_append_right (by simp; omega), if_neg (by omega), List.getElem?_drop]
   congr 1
   simp
   omega
theorem Adc (R : Rel P W0 M U st E Z a W) {t e : TypeId} {p x : Operand} {i r off : Nat} {rows : List (List C)} {vc : List SV} {cs : List C} {ks : List Kn} {rd : List Nat} (ho : o.op = .store t p x) (hp : st.opd p = some (.one (.ept i r off))) (hl : Aa st.ob i = some (.arr e false rows)) (hks : Dy P e = some ks) (hx : st.opdF P t x = some vc) (hcs : st.toCs vc = some cs)
  (hn : cs.length = P.cellsOf t) (h0 : cs.length ≠ 0) (hk : (cs.map C.kind) = (ks.drop off).take cs.length) (hni : i ∉ Cy vc) :
  D2 P W0 M U id E Z st a W o ⟨.tup [], st.freeze (Cy vc) ++ [(i, some (.arr e false (rows.set r (Gi (rows.getD r []) off cs))))], rd⟩ := by
 have hr := C4 R hp
 generalize hv : a.eval p = w at hr
 cases hr with
 | one hr =>
  obtain ⟨hlt, g, o0, hpl, he⟩ := hr.2.2 e false rows hl
  obtain ⟨r1, r2, ks', r3, r4, r5, r6⟩ := R.ob i _ hl
  rw [hks] at r3
  cases r3
  have hcap : 0 < E.cap i := by omega
  obtain ⟨g', off', cur, r7, r8, r9, r10⟩ := r6 hcap
  rw [hpl] at r7
  cases r7
  have hfl := Ke R hx
  have h3 := N8 R hfl hcs
  have hlen3 := h3.length
  simp only [Array.length_toList] at hlen3
  have hkl := Kk hks
  have hoff : off + cs.length ≤ P.cellsOf e := by
   have := congrArg List.length hk
   simp at this
   omega
  have hget : rows.getD r [] = rows[r] := by simp [List.getD, List.getElem?_eq_getElem hlt]
  have hrl : rows[r].length = P.cellsOf e := H8 hks (r5 _ (List.getElem_mem hlt))
  have hrb : r * P.cellsOf e + P.cellsOf e ≤ E.cap i * P.cellsOf e := by
   have : (r + 1) * P.cellsOf e ≤ E.cap i * P.cellsOf e := Nat.mul_le_mul_right _ (by omega)
   rw [Nat.add_mul] at this
   omega
  have hrun := Vt (P := P) (W := W) (t := t) (off := o0 + r * P.cellsOf e + off) (v := a.eval x) (by omega) (by omega) r8 (by omega) (fun u hu => by
   obtain ⟨y, _, hy⟩ := hfl.mem_right hu
   exact hy.one)
  generalize hcur' : (cur.toList.take (o0 + r * P.cellsOf e + off) ++ (a.eval x).cells.toList ++ cur.toList.drop (o0 + r * P.cellsOf e + off + (a.eval x).cells.size)).toArray = cur' at hrun
  have hcl : cur'.size = cur.size := by
   rw [← hcur']
   simp
   omega
  have hcg : ∀ k, cur'[k]? = if o0 + r * P.cellsOf e + off ≤ k ∧ k < o0 + r * P.cellsOf e + off + (a.eval x).cells.size then (a.eval x).cells.toList[k - (o0 + r * P.cellsOf e + off)]? else cur[k]? := by
   intro k
   have := Abz cur.toList (a.eval x).cells.toList (o0 + r * P.cellsOf e + off) k (by simp; omega)
   rw [← hcur', List.getElem?_toArray]
   simp only [Array.length_toList] at this ⊢
   rw [this]
   simp
  have RF := Rel.freezeAll (st := st) (ids := Cy vc) (ob := st.ob) (Z := Z) R (fun i e f rows h _ => ⟨f, h⟩)
  have hl' : Aa (Am st.ob (st.freeze (Cy vc))) i = some (.arr e false rows) := by rw [Aaf hni]; exact hl
  obtain ⟨sk1, sk2⟩ := Afo cs rows[r] off (by omega) (by rw [r5 _ (List.getElem_mem hlt)]; exact hk.symm)
  have RW := RF.rowSet (rows' := rows.set r (Gi (rows.getD r []) off cs)) (cur' := cur') hl' hcap hpl r8 (by simp) (by rw [hcl]; exact r9) (fun ks2 hks2 q hq => by
   have hks2' : Dy P e = some ks2 := hks2
   rw [hks] at hks2'
   cases hks2'
   rcases List.mem_or_eq_of_mem_set hq with h | h
   ·exact r5 q h
   ·rw [h, hget, sk1]
    exact r5 _ (List.getElem_mem hlt)) (fun j q o' y hj hq => by
   rw [hcg]
   rw [List.getElem?_set] at hj
   by_cases hrj : r = j
   ·subst hrj
    rw [if_pos rfl, if_pos hlt] at hj
    cases hj
    rw [hget, Afn cs rows[r] off o' (by omega)] at hq
    by_cases hin : off ≤ o' ∧ o' < off + cs.length
    ·rw [if_pos hin] at hq
     obtain ⟨w, w1, w2⟩ := h3.get _ y hq
     refine ⟨w, ?_, w2⟩
     rw [if_pos (by omega)]
     rw [← w1]
     congr 1
     omega
    ·rw [if_neg hin] at hq
     have hol : o' < P.cellsOf e := by rw [← hrl]; exact (List.getElem?_eq_some_iff.1 hq).1
     obtain ⟨w, w1, w2⟩ := r10 r _ o' y (List.getElem?_eq_getElem hlt) hq
     exact ⟨w, by rw [if_neg (by omega)]; exact w1, w2.mono (fun _ _ => rfl) (fun _ h => .inl h)⟩
   ·rw [if_neg hrj] at hj
    obtain ⟨w, w1, w2⟩ := r10 j q o' y hj hq
    have hol : o' < P.cellsOf e := by rw [← H8 hks (r5 q (List.mem_of_getElem? hj))]; exact (List.getElem?_eq_some_iff.1 hq).1
    refine ⟨w, ?_, w2.mono (fun _ _ => rfl) (fun _ h => .inl h)⟩
    rw [if_neg ?_]
    ·exact w1
    ·rcases Nat.lt_or_gt_of_ne hrj with h | h
     ·have : (r + 1) * P.cellsOf e ≤ j * P.cellsOf e := Nat.mul_le_mul_right _ h
      rw [Nat.add_mul] at this
      omega
     ·have : (j + 1) * P.cellsOf e ≤ r * P.cellsOf e := Nat.mul_le_mul_right _ h
      rw [Nat.add_mul] at this
      omega)
  refine ⟨.skip, undef, W.setRow g cur', E, fun k => Z k ∨ ∃ i, i ∈ Cy vc ∧ ∃ e f rows, Aa st.ob i = some (.arr e f rows) ∧ FC P E i e rows.length k, ?_, .inr ⟨rfl, rfl⟩, ?_, fun _ h => .inl h, fun k hk => ?_, fun _ _ => rfl⟩
  ·simp [execOp, ho, hv, he, hrun]
  ·rw [I9, Hl]
   exact (RW.val o.dst (.tup rfl (fun i t u h => by simp at h))).moreU (fun _ h => .inl h)
  ·rcases hk with hk | ⟨j, _, e', f', rows', hj, hb⟩
   ·exact .inl hk
   ·exact .inr (R.own j _ _ hj hb.blk)
theorem Ada (R : Rel P W0 M U st E Z a W) {t : TypeId} {p x : Operand} (ho : o.op = .store t p x) (h : Kv P st t p x = some u) : D2 P W0 M U id E Z st a W o u := by
 unfold Kv at h
 split at h
 ·rename_i i off hp
  split at h
  ·rename_i t' l hl
   split at h
   ·rename_i vc hx
    split at h
    ·rename_i h1 h2 h3
     cases h
     exact Adb R ho hp hl hx (Nat.eq_of_beq_eq_true h1) (Nat.ne_of_beq_eq_false h3) (Nat.le_of_ble_eq_true h2)
    ·cases h
   ·cases h
  ·cases h
 ·rename_i i r off hp
  split at h
  ·rename_i e rows hl
   split at h
   ·rename_i ks hks
    split at h
    ·rename_i vc hx
     split at h
     ·rename_i cs hcs
      split at h
      ·rename_i h1 h2 h3 h4
       split at h
       ·cases h
       ·rename_i h5
        cases h
        exact Adc R ho hp hl hks hx hcs (Nat.eq_of_beq_eq_true h1) (Nat.ne_of_beq_eq_false h5) (Pn h2) (fun hm => by simp [hm] at h3)
      ·cases h
     ·cases h
    ·cases h
   ·cases h
  ·cases h
 ·cases h
end Go.Vm
namespace Go.Vm
open Go Go.Lib
variable {P : Program} {W0 W W' : World} {M U U' : Nat → Prop} {st : St} {E E' : Env} {Z Z' : Addr → Prop} {a : Act} {ob ob' : List (Nat × Ob)} {o : Oper} {u : Up} {tv : TV} {id : Nat}
theorem Ac8 (R : Rel P W0 M U st E Z a W) (hf : ∀ j, id ≤ j → j < id + 128 → ¬ U j) {t : TypeId} {x : Operand} (ho : o.op = .range t x) (h : L8 some P st id t x = some u) : D2 P W0 M U id E Z st a W o u := by
 unfold L8 at h
 split at h
 ·rename_i s hx hs
  cases h
  have hv := Kw R hx
  have hd : P.underlying t = some .string := by
   unfold G1 at hs
   split at hs
   ·assumption
   ·cases hs
  obtain ⟨h1, h2, h3, _⟩ := Ij W (.stringIter s 0)
  have R2 := R.alloc (.stringIter s 0)
  have hE : ∀ j, j ≠ id → (E.setBox id W.heap.size).box j = E.box j ∧ (E.setBox id W.heap.size).row j = E.row j ∧ (E.setBox id W.heap.size).cap j = E.cap j := fun j hj => ⟨by simp [Env.setBox, hj], rfl, rfl⟩
  have R3 := R2.add (o := .iter s 0) (Fi hf) hE (by show (W.alloc (.stringIter s 0)).heap[(E.setBox id W.heap.size).box id]? = _; simpa [Env.setBox] using h2) (fun e rows h => by cases h) (fun g hg => by
   simp only [Aw, Env.setBox, if_true, Option.some.injEq] at hg
   subst hg
   exact ⟨fun A hz e => by have := R.zlt A hz; omega, .inr R.size, fun j p hj hb => Nat.lt_irrefl _ (R.lt hj hb)⟩)
  have hv2 : D0 P (W.alloc (.stringIter s 0)) Z (fun j => U j ∨ j = id) (E.setBox id W.heap.size) (put st.ob id (.iter s 0)) (.itr id) (.pointer (some ⟨W.heap.size, 0, none⟩)) :=
   .itr ⟨.inr rfl, fun s' p' hh => by simp [Env.setBox], fun k e l hh => by rw [D8, if_pos rfl] at hh; cases hh⟩
  have R4 := (R3.val o.dst hv2).moreU (U' := Gl U id) (fun j hj => by
   rcases hj with h | rfl
   ·exact .inl h
   ·exact .inr ⟨Nat.le_refl _, by omega⟩)
  refine ⟨.value (.pointer (some ⟨W.heap.size, 0, none⟩)), _, _, _, Z, ?_, .inl rfl, by rw [I9]; exact R4, fun _ h => h, fun _ h => .inl h, fun i hi => by have : i ≠ id := fun e => Fi hf (e ▸ hi); simp [Env.setBox, this]⟩
  simp [execOp, ho, Instr.range, hv, run_underlying hd, newObj, Sem.run, Result.andThen]
 ·cases h
theorem Rel.iterSet (R : Rel P W0 M U st E Z a W) {i : Nat} {s : ByteArray} {pos pos' : Nat} (h : Aa st.ob i = some (.iter s pos)) :
  Rel P W0 M U ⟨st.tm, put st.ob i (.iter s pos'), st.base, st.nt⟩ E Z a (W.iterAt (E.box i) s pos') := by
 have hz : ∀ A, Z A → A.block ≠ E.box i := R.free i _ _ h rfl (fun e rows hh => by cases hh)
 have hk : ∀ k, k ≠ E.box i → (W.iterAt (E.box i) s pos').heap[k]? = W.heap[k]? := fun k hk => iterAt_other W _ _ s pos' hk
 have hg : W.heap[E.box i]? = some (.stringIter s pos) := R.ob i _ h
 exact R.upd h (o' := .iter s pos') trivial (fun _ h => h) (fun A hA => Gp (hk _ (hz A hA))) (fun k hn => hk k (fun e => hn (by rw [e]; rfl)))
  (show (W.iterAt (E.box i) s pos').heap[E.box i]? = _ from iterAt_heap W _ s pos pos' hg) (fun k hk => .inl hk) (fun _ e rows hh => by cases hh) (fun e rows g off hh => by cases hh) (iterAt_size W _ s pos') rfl rfl rfl
theorem Ac5 (R : Rel P W0 M U st E Z a W) {x : Operand} (ho : o.op = .next x true) (h : L7 some st x = some u) : D2 P W0 M U id E Z st a W o u := by
 unfold L7 at h
 split at h
 ·rename_i i hx
  split at h
  ·rename_i s pos hl
   have hr := C4 R hx
   generalize hv : a.eval x = w at hr
   have hg : W.heap[E.box i]? = some (.stringIter s pos) := R.ob i _ hl
   cases hr with
   | itr hr =>
    have hw := hr.2.1 s pos hl
    split at h
    ·rename_i hc
     have hc := of_decide_eq_true hc
     cases h
     have hrun := run_next_any_at (P := P) W (E.box i) s pos o.type hg hc
     refine ⟨.value (.tuple #[.bool true, .int .i64 pos, .int .i32 (Utf8.decode s pos).1]), _, W.iterAt (E.box i) s (pos + (Utf8.decode s pos).2), E, Z, ?_, .inl rfl, ?_, fun _ h => h, fun _ h => .inl h, fun _ _ => rfl⟩
     ·simp [execOp, ho, hv, hw, hrun]
     ·rw [I9]
      refine ((R.iterSet hl).val o.dst (.tup rfl fun j t u h1 h2 => ?_)).moreU (fun _ h => .inl h)
      match j, h1, h2 with
      | 0, h1, h2 => cases h1; cases h2; exact .one (show Ae _ _ _ _ _ from .bool true)
      | 1, h1, h2 => cases h1; cases h2; exact .one (show Ae _ _ _ _ _ from .int _ _)
      | 2, h1, h2 => cases h1; cases h2; exact .one (show Ae _ _ _ _ _ from .int _ _)
      | j + 3, h1, h2 => cases h1
    ·rename_i hc
     have hc := of_decide_eq_false hc
     cases h
     have hrun := run_next_end_at (P := P) W (E.box i) s pos o.type hg hc
     refine Ds R (v := .tuple #[.bool false]) (by simp [execOp, ho, hv, hw, hrun]) rfl (.tup rfl fun j t u h1 h2 => ?_)
     match j, h1, h2 with
     | 0, h1, h2 => cases h1; cases h2; exact .one (show Ae _ _ _ _ _ from .bool false)
     | j + 1, h1, h2 => cases h1
  ·cases h
 ·cases h
theorem Uu (R : Rel P W0 M U st E Z a W) (hf : ∀ j, id ≤ j → j < id + 128 → ¬ U j) {t : TypeId} (ho : o.op = .makeMap t none) : D2 P W0 M U id E Z st a W o (.val (.itr id)) := by
 have hn : Aa st.ob id = none := by
  cases h : Aa st.ob id with
  | none => rfl
  | some p => exact absurd (R.ids _ _ h) (Fi hf)
 have R2 := (R.alloc (.map #[] 0)).moreU (U' := Gl U id) (fun j hj => .inl hj)
 refine ⟨.value (.map (some W.heap.size)), _, W.alloc (.map #[] 0), E, Z, by simp [execOp, ho, Instr.makeMap, newObj, Sem.run, Result.andThen], .inl rfl, R2.val o.dst (.itr ⟨.inr ⟨Nat.le_refl _, by omega⟩, (fun s p hl => by rw [hn] at hl; cases hl), (fun k e l hl => by rw [hn] at hl; cases hl)⟩), fun _ h => h, fun _ h => .inl h, fun _ _ => rfl⟩
end Go.Vm
namespace Go.Vm
open Go Go.Lib
variable {P : Program} {W0 W W' : World} {M U U' : Nat → Prop} {st : St} {E E' : Env} {Z Z' : Addr → Prop} {a : Act} {ob ob' : List (Nat × Ob)} {o : Oper} {u : Up} {tv : TV} {id : Nat}
structure Qu (P : Program) (k e : TypeId) (n : Nat) : Prop where
 law : WideMaps.KeyLaw P k
 fs : ∃ fs, P.underlying k = some (.struct fs) ∧ Mo P 0 fs.toList = true ∧ fs.size = n
 cells : P.cellsOf k = n
 types : 0 < P.types.size
 key : P.keyType k = true
 zero : ∀ w, (zeroValue e).run P w = .ok (.bool false) w
theorem Uc {k e : TypeId} {n : Nat} (h : Ko P k e = some n) : Qu P k e n := by
 unfold Ko at h
 split at h
 ·rename_i fs hu
  split at h
  ·rename_i hc
   simp only [Bool.and_eq_true] at hc
   obtain ⟨⟨⟨⟨⟨h1, h2⟩, h3⟩, h4⟩, h5⟩, h6⟩ := hc
   split at h
   ·rename_i hz
    cases h
    refine ⟨Go.deep_law (m := 3) (by omega) h4 h6 (by rw [hu]), ⟨fs, hu, h1, rfl⟩, Nat.eq_of_beq_eq_true h2, by simpa using h3, h5, fun w => ?_⟩
    unfold Ww at hz
    split at hz
    ·rename_i i hi
     split at hz
     ·rename_i hzz
      simp [zeroValue, typeInfo, hi, hzz]
     ·cases hz
    ·cases hz
   ·cases h
  ·cases h
 ·cases h
theorem Af7 {n : Nat} {kc : List ByteArray} (hs : ∀ s, s ∈ kc → s.size ≤ 70368744177664) (d : Nat) : ∀ (l : List Field) (j : Nat), Mo P j l = true → j + l.length ≤ kc.length →
  (∃ r, l.mapM (fun f => P.keyLits (d + 1) f.type (((kc.map Value.string).drop f.offset).take (P.cellsOf f.type))) = some r) ∧ (l.all fun f => f.name != "_") = true := by
 intro l
 induction l with
 | nil => intro j _ _; exact ⟨⟨[], rfl⟩, rfl⟩
 | cons f l ih =>
  intro j h hl
  simp only [Mo, Bool.and_eq_true] at h
  obtain ⟨⟨⟨⟨h1, h2⟩, h3⟩, h4⟩, h5⟩ := h
  simp only [List.length_cons] at hl
  obtain ⟨⟨r, hr⟩, ha⟩ := ih (j + 1) h5 (by omega)
  have e2 := Nat.eq_of_beq_eq_true h2
  have e3 := Nat.eq_of_beq_eq_true h3
  have hu : P.underlying f.type = some .string := by
   unfold G1 at h1
   split at h1
   ·assumption
   ·cases h1
  have hj : j < kc.length := by omega
  have e4 : ((kc.map Value.string).drop f.offset).take (P.cellsOf f.type) = [.string kc[j]] := by
   rw [e2, e3]
   apply List.ext_getElem?
   intro i
   rw [List.getElem?_take, List.getElem?_drop, List.getElem?_map]
   cases i with
   | zero => simp [hj]
   | succ i => simp
  refine ⟨?_, by simp only [List.all_cons, Bool.and_eq_true]; exact ⟨h4, ha⟩⟩
  have e5 : P.keyLits (d + 1) f.type [.string kc[j]] = some [.string kc[j].data.toList] := by
   simp only [Program.keyLits, hu]
   rw [if_pos (Nat.le_trans (hs _ (List.getElem_mem hj)) (by decide))]
  rw [List.mapM_cons, e4, e5]
  rw [hr]
  exact ⟨_, rfl⟩
theorem Tx {k e : TypeId} {n : Nat} (h : Qu P k e n) {kc : List ByteArray} (hl : kc.length = n) (hs : ∀ s, s ∈ kc → s.size ≤ 70368744177664) : ∃ l, keyOf P k (Ep kc) = some l := by
 obtain ⟨fs, hu, h1, h2⟩ := h.fs
 obtain ⟨d, hd⟩ : ∃ d, P.types.size = d + 1 := ⟨P.types.size - 1, by have := h.types; omega⟩
 obtain ⟨⟨r, hr⟩, ha⟩ := Af7 (n := n) hs d fs.toList 0 h1 (by simp; omega)
 have hf : (Ep kc).formed P k = true := by
  simp only [Ep, Value.formed, hu]
  rw [h.cells]
  simp [hl]
 unfold keyOf
 simp only [hu, h.key, hf, Bool.and_self, if_true]
 rw [hd]
 simp only [Ep, Value.cells]
 unfold Program.keyLits
 simp only [hu]
 rw [if_pos ⟨by rw [h.cells]; simp [hl], by rw [← Array.all_toList]; exact ha⟩, hr]
 exact ⟨_, rfl⟩
theorem Tz {a b : List ByteArray} (h : Ep a = Ep b) : a = b := by
 unfold Ep at h
 simp only [Value.agg.injEq] at h
 have h : (a.map Value.string) = (b.map Value.string) := by simpa using congrArg Array.toList h
 exact List.map_inj_right (fun x y hxy => by cases hxy; rfl) |>.1 h
theorem Wc {l : List SV} {us : List Value} {kc : List ByteArray} (h : Aq (Cs P W Z U E ob) l us) (hk : K9 l = some kc) : us = kc.map Value.string := by
 induction h generalizing kc with
 | nil => simp only [K9, Option.some.injEq] at hk; subst hk; rfl
 | cons h1 _ ih =>
  unfold K9 at hk
  split at hk
  ·rename_i heq
   cases heq
  ·rename_i s l' heq
   cases heq
   split at hk
   ·rename_i r hr
    cases hk
    rw [ih hr]
    have h1 : Ae _ _ _ _ _ := h1
    cases h1
    rfl
   ·cases hk
  ·cases hk
theorem Tw {t : List C} : ∀ {a b : List ByteArray}, a.length = b.length → (Ki (a.map C.str ++ t) b = true ↔ a = b) := by
 intro a
 induction a with
 | nil => intro b h; cases b with
  | nil => simp [Ki]
  | cons _ _ => cases h
 | cons x a ih =>
  intro b h
  cases b with
  | nil => cases h
  | cons y b =>
   have hb : (x == y) = true ↔ x = y := by
    constructor
    ·intro h
     cases x with
     | mk x => cases y with
      | mk y => have h : (x == y) = true := h; rw [eq_of_beq h]
    ·rintro rfl
     cases x with
     | mk x => show (x == x) = true; simp
   simp only [List.map_cons, List.cons_append, Ki, Bool.and_eq_true, hb, ih (by simpa using h), List.cons.injEq]
theorem Lz {rows : List (List C)} {kc kc' : List ByteArray} {b : Bool} (hl : kc'.length = kc.length) : G2 ((kc'.map C.str ++ [.bool b]) :: rows) kc = if kc' = kc then b else G2 rows kc := by
 show (match Ki (kc'.map C.str ++ [C.bool b]) kc with | true => (((kc'.map C.str ++ [C.bool b]).drop kc.length).headD default).bl | false => G2 rows kc) = _
 split
 ·rename_i h
  have e := (Tw hl).1 h
  rw [if_pos e, ← e]
  simp [C.bl]
 ·rename_i h
  rw [if_neg (fun e => by rw [(Tw hl).2 e] at h; cases h)]
theorem Nn {kc : List ByteArray} {x : Option Up} (h : Iv x kc = some u) : x = some u ∧ ∀ s, s ∈ kc → s.size ≤ 70368744177664 := by
 induction kc with
 | nil => exact ⟨h, fun s hs => by cases hs⟩
 | cons s l ih =>
  simp only [Iv] at h
  split at h
  ·rename_i hc
   obtain ⟨h1, h2⟩ := ih h
   exact ⟨h1, fun t ht => by
    rcases List.mem_cons.1 ht with rfl | ht
    ·exact of_decide_eq_true hc
    ·exact h2 t ht⟩
  ·cases h
theorem Ps {t : TypeId} {x ix : Operand} {i : Nat} {k e : TypeId} {rows : List (List C)} {kc : List ByteArray} (h : Jn P st t x ix = some (i, k, e, rows, kc)) :
  st.opd x = some (.itr i) ∧ Aa st.ob i = some (.mp k e rows) ∧ P.underlying t = some (.map k e) ∧ ∃ l n, st.opd ix = some (.agg l) ∧ K9 l = some kc ∧ Ko P k e = some n ∧ kc.length = n := by
 unfold Jn at h
 split at h
 ·rename_i i' hx
  split at h
  ·rename_i k' e' rows' k2 e2 hl ht
   split at h
   ·rename_i l h1 h2 hix
    have h1 := Nat.eq_of_beq_eq_true h1
    have h2 := Nat.eq_of_beq_eq_true h2
    split at h
    ·rename_i kc' n hk hm
     split at h
     ·rename_i hn
      cases h
      subst h1
      subst h2
      exact ⟨hx, hl, ht, l, n, hix, hk, hm, Nat.eq_of_beq_eq_true hn⟩
     ·cases h
    ·cases h
   ·cases h
  ·cases h
 ·cases h
theorem Ac2 (R : Rel P W0 M U st E Z a W) (hf : ∀ j, id ≤ j → j < id + 128 → ¬ U j) {t : TypeId} (ho : o.op = .makeMap t none) (h : Nt some P id t = some u) : D2 P W0 M U id E Z st a W o u := by
 unfold Nt at h
 split at h
 ·rename_i k e ht
  split at h
  ·rename_i n hm
   cases h
   obtain ⟨h1, h2, h3, _⟩ := Ij W (.map #[] 0)
   have R2 := R.alloc (.map #[] 0)
   have hE : ∀ j, j ≠ id → (E.setBox id W.heap.size).box j = E.box j ∧ (E.setBox id W.heap.size).row j = E.row j ∧ (E.setBox id W.heap.size).cap j = E.cap j := fun j hj => ⟨by simp [Env.setBox, hj], rfl, rfl⟩
   have R3 := R2.add (o := .mp k e []) (Fi hf) hE (show ∃ es clock n, (W.alloc (.map #[] 0)).heap[(E.setBox id W.heap.size).box id]? = some (.map es clock) ∧ Oj P k e n es clock [] from ⟨#[], 0, n, by simpa [Env.setBox] using h2, hm, MapKept.stamped_empty 0, fun x hx => by simp at hx, fun kc x _ hx => by simp at hx, fun kc _ _ => rfl⟩) (fun e rows h => by cases h) (fun g hg => by
    simp only [Aw, Env.setBox, if_true, Option.some.injEq] at hg
    subst hg
    exact ⟨fun A hz e => by have := R.zlt A hz; omega, .inr R.size, fun j p hj hb => Nat.lt_irrefl _ (R.lt hj hb)⟩)
   have hv2 : D0 P (W.alloc (.map #[] 0)) Z (fun j => U j ∨ j = id) (E.setBox id W.heap.size) (put st.ob id (.mp k e [])) (.itr id) (.map (some W.heap.size)) :=
    .itr ⟨.inr rfl, (fun s' p' hh => by rw [D8, if_pos rfl] at hh; cases hh), fun k e l hh => by simp [Env.setBox]⟩
   have R4 := (R3.val o.dst hv2).moreU (U' := Gl U id) (fun j hj => by
    rcases hj with h | rfl
    ·exact .inl h
    ·exact .inr ⟨Nat.le_refl _, by omega⟩)
   refine ⟨.value (.map (some W.heap.size)), _, _, _, Z, ?_, .inl rfl, by rw [I9]; exact R4, fun _ h => h, fun _ h => .inl h, fun i hi => by have : i ≠ id := fun e => Fi hf (e ▸ hi); simp [Env.setBox, this]⟩
   simp [execOp, ho, Instr.makeMap, newObj, Sem.run, Result.andThen]
  ·cases h
   exact Uu R hf ho
 ·cases h
  exact Uu R hf ho
theorem Ac0 (R : Rel P W0 M U st E Z a W) {t : TypeId} {x ix : Operand} (ho : o.op = .lookup t x ix false) (h : L5 some P st t x ix = some u) : D2 P W0 M U id E Z st a W o u := by
 unfold L5 at h
 split at h
 ·rename_i i k e rows kc hm
  obtain ⟨h, hroom⟩ := Nn h
  cases h
  obtain ⟨hx, hl, ht, l, n, hix, hk, hmo, hn⟩ := Ps hm
  obtain ⟨es, clock, n', hb, MR⟩ := R.ob i _ hl
  have hnn : n' = n := by have := MR.ok; rw [hmo] at this; exact (Option.some.inj this).symm
  subst hnn
  have MO := Uc hmo
  have hr := C4 R hx
  generalize hv : a.eval x = w at hr
  cases hr with
  | itr hr =>
   have hw := hr.2.2 k e rows hl
   have hr2 := C4 R hix
   generalize hv2 : a.eval ix = w2 at hr2
   cases hr2 with
   | @agg _ us hr2 =>
    have hus := Wc hr2 hk
    have hkey : (Value.agg us) = Ep kc := by unfold Ep; rw [← hus]
    obtain ⟨kl, hkl⟩ := Tx MO hn hroom
    have hrun : (Instr.lookup t (.map (some (E.box i))) (Ep kc) false).run P W = .ok (.bool (G2 rows kc)) W := by
     rcases MO.law.find W hkl es.toList MR.key with ⟨h1, h2⟩ | ⟨j, e0, h1, h2, h3⟩
     ·rw [MR.no kc hn h2]
      simp [Instr.lookup, run_underlying ht, MapKept.run_getObj_map hb, MO.law.check W _ hkl, h1, MO.zero, Result.andThen]
     ·have := MR.at_ kc e0 hn (List.mem_of_getElem? h2) h3
      simp [Instr.lookup, run_underlying ht, MapKept.run_getObj_map hb, MO.law.check W _ hkl, h1, this, Result.andThen]
    refine Ds R (v := .bool (G2 rows kc)) ?_ rfl (.one (show Ae _ _ _ _ _ from .bool _))
    rw [hkey] at hv2
    simp [execOp, ho, hv, hw, hv2, hrun]
 ·cases h
theorem Ac3 (R : Rel P W0 M U st E Z a W) {t : TypeId} {x ix y : Operand} (ho : o.op = .mapUpdate t x ix y) (h : L6 some P st t x ix y = some u) : D2 P W0 M U id E Z st a W o u := by
 unfold L6 at h
 split at h
 ·rename_i i k e rows kc hm
  split at h
  ·rename_i b hy
   obtain ⟨h, hroom⟩ := Nn h
   cases h
   obtain ⟨hx, hl, ht, l, n, hix, hk, hmo, hn⟩ := Ps hm
   obtain ⟨es, clock, n', hb, MR⟩ := R.ob i _ hl
   have hnn : n' = n := by have := MR.ok; rw [hmo] at this; exact (Option.some.inj this).symm
   subst hnn
   have MO := Uc hmo
   have hr := C4 R hx
   generalize hv : a.eval x = w at hr
   have hr3 := C4 R hy
   generalize hv3 : a.eval y = w3 at hr3
   cases hr with
   | itr hr =>
    have hw := hr.2.2 k e rows hl
    have hr2 := C4 R hix
    generalize hv2 : a.eval ix = w2 at hr2
    cases hr2 with
    | @agg _ us hr2 =>
     have hus := Wc hr2 hk
     have hkey : (Value.agg us) = Ep kc := by unfold Ep; rw [← hus]
     have hw3 : w3 = .bool b := by
      cases hr3 with
      | one hr3 => have hr3 : Ae _ _ _ _ _ := hr3; cases hr3; rfl
     subst hw3
     obtain ⟨kl, hkl⟩ := Tx MO hn hroom
     have hrun : ∃ es' clock', (Instr.mapUpdate t (.map (some (E.box i))) (Ep kc) (.bool b)).run P W = .ok () { W with heap := W.heap.setIfInBounds (E.box i) (.map es' clock') } ∧ Oj P k e n' es' clock' ((kc.map C.str ++ [.bool b]) :: rows) := by
      rcases MO.law.find W hkl es.toList MR.key with ⟨h1, h2⟩ | ⟨j, e0, h1, h2, h3⟩
      ·refine ⟨es.push ⟨Ep kc, .bool b, clock⟩, clock + 1, by simp [Instr.mapUpdate, run_underlying ht, MapKept.run_getObj_map hb, MO.law.check W _ hkl, h1, MapKept.run_setObj_map _ hb, Result.andThen], hmo, MapKept.stamped_push MR.st h2, fun x hx => ?_, fun kc2 x hn2 hx hxe => ?_, fun kc2 hn2 hno => ?_⟩
       ·simp only [Array.toList_push, List.mem_append, List.mem_singleton] at hx
        rcases hx with hx | rfl
        ·exact MR.key x hx
        ·exact ⟨kl, hkl⟩
       ·rw [Lz (by omega)]
        simp only [Array.toList_push, List.mem_append, List.mem_singleton] at hx
        rcases hx with hx | rfl
        ·rw [if_neg (fun hq => h2 x hx (by rw [hxe, hq]))]
         exact MR.at_ kc2 x hn2 hx hxe
        ·rw [if_pos (Tz hxe)]
       ·rw [Lz (by omega), if_neg (fun hq => hno ⟨Ep kc, .bool b, clock⟩ (by simp) (by rw [hq]))]
        exact MR.no kc2 hn2 (fun x hx => hno x (by simp only [Array.toList_push, List.mem_append]; exact .inl hx))
      ·have hj : es[j]? = some e0 := by simpa using h2
       have hkeyf : ∀ e', es[j]? = some e' → ({ e' with key := Ep kc, val := .bool b } : MapEntry).key = e'.key := fun e' he' => by rw [hj] at he'; cases he'; exact h3.symm
       have hdist := ((MapKept.stamped_iff es clock).1 MR.st).2.2
       have hmem : ∀ x, x ∈ (es.modify j (fun e' => { e' with key := Ep kc, val := .bool b })).toList → (x ∈ es.toList ∧ x.key ≠ Ep kc) ∨ x = { e0 with key := Ep kc, val := .bool b } := by
        intro x hx
        obtain ⟨m, hmx⟩ := List.mem_iff_getElem?.1 hx
        rw [Array.toList_modify, List.getElem?_modify] at hmx
        have hm' : m < es.toList.length := by
         rcases Nat.lt_or_ge m es.toList.length with g | g
         ·exact g
         ·rw [List.getElem?_eq_none g] at hmx; cases hmx
        by_cases hjm : j = m
        ·subst hjm
         rw [h2] at hmx
         simp at hmx
         exact .inr hmx.symm
        ·left
         have hm2 : es.toList[m]? = some x := by
          cases hq : es.toList[m]? with
          | none => rw [hq] at hmx; cases hmx
          | some y => rw [hq] at hmx; simpa [hjm] using hmx
         refine ⟨List.mem_of_getElem? hm2, fun hxk => ?_⟩
         have hjl := (List.getElem?_eq_some_iff.1 h2).1
         have ej : es.toList[j] = e0 := (List.getElem?_eq_some_iff.1 h2).2
         have em : es.toList[m] = x := (List.getElem?_eq_some_iff.1 hm2).2
         rcases Nat.lt_or_gt_of_ne hjm with g | g
         ·exact List.pairwise_iff_getElem.1 hdist j m hjl hm' g (by rw [ej, em, h3, hxk])
         ·exact List.pairwise_iff_getElem.1 hdist m j hm' hjl g (by rw [ej, em, h3, hxk])
       refine ⟨es.modify j (fun e' => { e' with key := Ep kc, val := .bool b }), clock, by simp [Instr.mapUpdate, run_underlying ht, MapKept.run_getObj_map hb, MO.law.check W _ hkl, h1, hj, h3, MO.law.stays W hkl, MapKept.run_setObj_map _ hb, Result.andThen], hmo, MapKept.stamped_modify MR.st _ _ (fun _ _ => rfl) (fun e' _ he' => hkeyf e' he'), fun x hx => ?_, fun kc2 x hn2 hx hxe => ?_, fun kc2 hn2 hno => ?_⟩
       ·rcases hmem x hx with ⟨hx, _⟩ | rfl
        ·exact MR.key x hx
        ·exact ⟨kl, hkl⟩
       ·rw [Lz (by omega)]
        rcases hmem x hx with ⟨hx, hne⟩ | rfl
        ·rw [if_neg (fun hq => hne (by rw [hxe, hq]))]
         exact MR.at_ kc2 x hn2 hx hxe
        ·rw [if_pos (Tz hxe)]
       ·have hjl := (List.getElem?_eq_some_iff.1 h2).1
        have hin : ({ e0 with key := Ep kc, val := .bool b } : MapEntry) ∈ (es.modify j (fun e' => { e' with key := Ep kc, val := .bool b })).toList := by
         rw [Array.toList_modify]
         refine List.mem_of_getElem? (i := j) ?_
         rw [List.getElem?_modify, h2]
         simp
        rw [Lz (by omega), if_neg (fun hq => hno _ hin (by rw [hq]))]
        refine MR.no kc2 hn2 (fun x hx hxk => ?_)
        obtain ⟨m, hm, hmx⟩ := List.mem_iff_getElem.1 hx
        by_cases hjm : j = m
        ·subst hjm
         have : es.toList[j] = e0 := (List.getElem?_eq_some_iff.1 h2).2
         rw [this] at hmx
         subst hmx
         exact hno _ hin (by show Ep kc = _; rw [← h3]; exact hxk)
        ·refine hno x ?_ hxk
         rw [Array.toList_modify]
         refine List.mem_of_getElem? (i := m) ?_
         rw [List.getElem?_modify, List.getElem?_eq_getElem hm, hmx]
         simp [hjm]
     obtain ⟨es', clock', hrun, MR'⟩ := hrun
     have hz : ∀ A, Z A → A.block ≠ E.box i := R.free i _ _ hl rfl (fun e rows hh => by cases hh)
     have hk2 : ∀ g, g ≠ E.box i → ({ W with heap := W.heap.setIfInBounds (E.box i) (.map es' clock') } : World).heap[g]? = W.heap[g]? := fun g hg => (MapKept.heap_set hb).2 g hg
     have R2 := R.upd (W' := { W with heap := W.heap.setIfInBounds (E.box i) (.map es' clock') }) (Z' := Z) hl (o' := .mp k e ((kc.map C.str ++ [.bool b]) :: rows)) trivial (fun _ h => h) (fun A hA => Gp (hk2 _ (hz A hA))) (fun g hg => hk2 g (fun e => hg (by rw [e]; rfl)))
      (show ∃ es clock n, _ ∧ _ from ⟨es', clock', n', (MapKept.heap_set hb).1, MR'⟩) (fun g hg => .inl hg) (fun _ e rows hh => by cases hh) (fun e rows g off hh => by cases hh) (by simp) rfl rfl rfl
     rw [hkey] at hv2
     refine ⟨.skip, undef, { W with heap := W.heap.setIfInBounds (E.box i) (.map es' clock') }, E, Z, ?_, .inr ⟨rfl, rfl⟩, ?_, fun _ h => h, fun _ h => .inl h, fun _ _ => rfl⟩
     ·simp [execOp, ho, hv, hw, hv2, hv3, hrun, Result.andThen]
     ·rw [I9]
      exact (R2.val o.dst (.tup rfl fun j t u h1 h2 => by cases h1)).moreU (fun _ h => .inl h)
  ·cases h
 ·cases h
end Go.Vm
namespace Go.Vm
open Go
variable {P : Program} {W0 W W' : World} {M U U' : Nat → Prop} {st : St} {E E' : Env} {Z Z' : Addr → Prop} {a : Act} {ob ob' : List (Nat × Ob)} {o : Oper} {u : Up} {tv : TV} {id : Nat}
theorem Aam (h : D2 P W0 M U id E Z st a W o u) {next : Act → World → Prop} {Q : Exit → Act → World → Prop}
  (hn : ∀ v W' E' Z', Rel P W0 M (Gl U id) (st.up o.dst u) E' Z' (a.put o.dst v) W' → (∀ k, Z k → Z' k) → (∀ A, Z' A → Z A ∨ M A.block ∨ W0.heap.size ≤ A.block) → (∀ i, U i → E'.box i = E.box i) → next (a.put o.dst v) W') : o.wp P a W next Q := by
 obtain ⟨r, v, W', E', Z', h1, h2, h3, h4, h5, h6⟩ := h
 unfold Oper.wp
 rw [h1]
 rcases h2 with rfl | ⟨rfl, rfl⟩
 ·exact hn v W' E' Z' h3 h4 h5 h6
 ·exact hn undef W' E' Z' h3 h4 h5 h6
theorem Ft {u : Up} {x : Option Up} (h : D4 some x = some u) : x = some u := by
 unfold D4 at h
 split at h
 ·cases h; rfl
 ·cases h
theorem Af3 {cl : FuncId → List Arg → Option Res} (R : Rel P W0 M U st E Z a W) (hf : ∀ j, id ≤ j → j < id + 128 → ¬ U j) (h : step P cl st id o = some u)
  (hno : ∀ c f, o.op = .call c → c.callee ≠ .value f) : D2 P W0 M U id E Z st a W o u := by
 have hsel : ∀ op : Op, o.op = op → (∀ cs b, op ≠ .select cs b) → ∀ cs b, o.op ≠ .select cs b := fun op ho hn cs b e => hn cs b (ho ▸ e)
 unfold step I6 at h
 split at h
 ·rename_i x ho
  split at h
  ·cases h; exact Uv R (.inl ho) (by assumption)
  ·cases h
 ·rename_i x ho
  split at h
  ·cases h; exact Uv R (.inr ho) (by assumption)
  ·cases h
 ·rename_i c x y ho
  split at h
  ·rename_i b hb
   split at h
   ·split at h
    ·cases h; exact Uw R ho hb (by simpa)
    ·cases h
   ·split at h
    ·cases h; exact Uw R ho hb (by simpa)
    ·cases h
  ·cases h
 ·rename_i t ho
  split at h
  ·cases h; exact Aci R hf ho (by assumption)
  ·cases h
 ·rename_i t x ho
  split at h
  ·cases h; exact Acn R hf ho (by assumption)
  ·cases h
 ·rename_i t parts ho
  split at h
  ·rename_i l hz hst
   split at h
   ·cases h; exact Aco R ho hz hst (by assumption)
   ·cases h
  ·rename_i l hz hst
   split at h
   ·rename_i n e ha
    split at h
    ·cases h; exact Acp R ho hz ha (by assumption)
    ·cases h
   ·cases h
  ·cases h
 ·rename_i t len parts ho
  exact Acq R hf ho (Ft h)
 ·rename_i t x ho
  exact Acz R ho (Ft h)
 ·rename_i t x y ho
  exact Ada R ho (Ft h)
 ·rename_i t x j ho
  exact Acx R ho h
 ·rename_i t x j ho
  exact Acv R ho (Ft h)
 ·rename_i t x j ho
  exact Acu R ho (Ft h)
 ·rename_i t x lo hi ho
  exact Ac9 R ho h
 ·rename_i t x j ho
  exact Acw R ho h
 ·rename_i t l c ho
  exact Ac1 R hf ho h
 ·rename_i t j ho
  split at h
  ·rename_i l hl
   split at h
   ·cases h; exact Acs R ho hl (by assumption)
   ·cases h
  ·cases h
 ·rename_i x ho
  split at h
  ·rename_i i off hx
   split at h
   ·cases h; exact Ac6 R ho hx (by assumption)
   ·cases h
  ·rename_i g hx
   cases h
   have hr := C4 R hx
   generalize hv : a.eval x = w at hr
   cases hr with
   | fn g => exact Ds R (by simp [execOp, ho, hv]) rfl (.fn g)
  ·rename_i g fst i off hx
   cases h
   have hr := C4 R hx
   generalize hv : a.eval x = w at hr
   cases hr with
   | fnp hr => exact Ds R (by simp [execOp, ho, hv]) rfl (.fnp hr)
  ·rename_i g fst e l off hx
   cases h
   have hr := C4 R hx
   generalize hv : a.eval x = w at hr
   cases hr with
   | fnr hr => exact Ds R (by simp [execOp, ho, hv]) rfl (.fnr hr)
  ·rename_i e l off hx
   cases h
   have hr := C4 R hx
   generalize hv : a.eval x = w at hr
   cases hr with
   | one hr =>
    have hr2 := hr
    obtain ⟨b, hb, _⟩ := hr2
    exact Ds R (by rw [hb]; simp [execOp, ho, hv, hb]) rfl (.one hr)
  ·cases h
 ·rename_i op t x y ty ho
  exact Acm R ho h
 ·rename_i c ho
  unfold In at h
  split at h
  ·rename_i hc
   split at h
   ·rename_i x t hx ht
    have ho' : o.op = .call { callee := .builtin .len, args := #[x], argTypes := #[t] } := by
     rw [ho]
     obtain ⟨cl, xs, ts⟩ := c
     simp only at hc hx ht
     subst hc
     rw [show xs = #[x] from Array.toList_inj.1 (by simpa using hx), show ts = #[t] from Array.toList_inj.1 (by simpa using ht)]
    exact Acy R ho' (Ft h)
   ·cases h
  ·rename_i hc
   split at h
   ·rename_i s x t t2 hx ht
    have ho' : o.op = .call { callee := .builtin .append, args := #[s, x], argTypes := #[t, t2] } := by
     rw [ho]
     obtain ⟨cl, xs, ts⟩ := c
     simp only at hc hx ht
     subst hc
     rw [show xs = #[s, x] from Array.toList_inj.1 (by simpa using hx), show ts = #[t, t2] from Array.toList_inj.1 (by simpa using ht)]
    exact Acl R hf ho' h
   ·cases h
  ·exact L4 R (hsel _ ho (fun _ _ e => by cases e)) (Ft h)
  ·exact L4 R (hsel _ ho (fun _ _ e => by cases e)) (Ft h)
  ·exact absurd (by assumption) (hno _ _ ho)
  ·exact absurd (by assumption) (hno _ _ ho)
  ·cases h
 ·rename_i ho
  exact L4 R (hsel _ ho (fun _ _ e => by cases e)) (Ft h)
 ·rename_i src dst x ho
  exact Acr R (hsel _ ho (fun _ _ e => by cases e)) ho h
 ·rename_i fn first captured ho
  unfold Ns at h
  split at h
  ·rename_i g h1 h2
   cases h
   refine Ds R (v := .func (.func g) #[] #[]) ?_ rfl (.fn g)
   rw [show first = #[] from Array.toList_inj.1 h1, show captured = #[] from Array.toList_inj.1 h2] at ho
   simp [execOp, ho, Instr.makeFunc]
  ·rename_i g x h1 h2
   split at h
   ·rename_i i off hx
    cases h
    have hr := C4 R hx
    generalize hv : a.eval x = w at hr
    cases hr with
    | one hr =>
     refine Ds R (v := .func (.func g) #[w] #[]) ?_ rfl (.fnp (fst := true) hr)
     rw [show first = #[x] from Array.toList_inj.1 h1, show captured = #[] from Array.toList_inj.1 h2] at ho
     simp [execOp, ho, Instr.makeFunc, hv]
   ·rename_i e l off hx
    cases h
    have hr := C4 R hx
    generalize hv : a.eval x = w at hr
    cases hr with
    | one hr =>
     refine Ds R (v := .func (.func g) #[w] #[]) ?_ rfl (.fnr (fst := true) hr)
     rw [show first = #[x] from Array.toList_inj.1 h1, show captured = #[] from Array.toList_inj.1 h2] at ho
     simp [execOp, ho, Instr.makeFunc, hv]
   ·cases h
  ·rename_i g x h1 h2
   split at h
   ·rename_i i off hx
    cases h
    have hr := C4 R hx
    generalize hv : a.eval x = w at hr
    cases hr with
    | one hr =>
     refine Ds R (v := .func (.func g) #[] #[w]) ?_ rfl (.fnp (fst := false) hr)
     rw [show first = #[] from Array.toList_inj.1 h1, show captured = #[x] from Array.toList_inj.1 h2] at ho
     simp [execOp, ho, Instr.makeFunc, hv]
   ·rename_i e l off hx
    cases h
    have hr := C4 R hx
    generalize hv : a.eval x = w at hr
    cases hr with
    | one hr =>
     refine Ds R (v := .func (.func g) #[] #[w]) ?_ rfl (.fnr (fst := false) hr)
     rw [show first = #[] from Array.toList_inj.1 h1, show captured = #[x] from Array.toList_inj.1 h2] at ho
     simp [execOp, ho, Instr.makeFunc, hv]
   ·cases h
  ·cases h
 ·rename_i t x ho
  exact Ac8 R hf ho h
 ·rename_i x ho
  exact Ac5 R ho h
 ·rename_i t ho
  exact Ac2 R hf ho h
 ·rename_i t x ix ho
  exact Ac0 R ho h
 ·rename_i t m k x ho
  exact Ac3 R ho h
 ·cases h
end Go.Vm
namespace Go.Vm
open Go
variable {P : Program} {W0 W W' : World} {M U U' : Nat → Prop} {st : St} {E E' : Env} {Z Z' : Addr → Prop} {a : Act} {ob ob' : List (Nat × Ob)} {o : Oper} {u : Up} {tv : TV} {id : Nat}
abbrev Pl := Option (Nat × Nat) × Nat
def Pl.blk (p : Pl) : Option Nat := if 0 < p.2 then p.1.map (·.1) else none
inductive BCs (P : Program) (W : World) (Z : Addr → Prop) : List BC → List Value → List Pl → Prop where
 | nil : BCs P W Z [] [] []
 | d {x : C} {v : Value} {l : List BC} {us : List Value} {pls : List Pl} : Ae P W Z x v → BCs P W Z l us pls → BCs P W Z (.d x :: l) (v :: us) pls
 | own {e : TypeId} {rows : List (List C)} {pl : Option (Nat × Nat)} {cap : Nat} {v : Value} {l : List BC} {us : List Value} {pls : List Pl} : Em P W Z e rows pl cap → Slc pl cap (P.cellsOf e) 0 rows.length v → BCs P W Z l us pls → BCs P W Z (.own e rows :: l) (v :: us) ((pl, cap) :: pls)
theorem BCs.mono {l : List BC} {us : List Value} {pls : List Pl} (h : BCs P W Z l us pls) (hW : ∀ A, Z A → W'.cell? A = W.cell? A) (hZ : ∀ k, Z k → Z' k) (hb : ∀ p g, p ∈ pls → Pl.blk p = some g → W'.heap[g]? = W.heap[g]?) : BCs P W' Z' l us pls := by
 induction h with
 | nil => exact .nil
 | d h1 _ ih => exact .d (h1.mono hW hZ) (ih hb)
 | own h1 h2 _ ih =>
  exact .own (h1.move hZ hW fun g o hc hp => hb _ g List.mem_cons_self (by simp [Pl.blk, hc, hp])) h2 (ih fun p g hp => hb p g (List.mem_cons_of_mem _ hp))
theorem BCs.length {l : List BC} {us : List Value} {pls : List Pl} (h : BCs P W Z l us pls) : l.length = us.length := by
 induction h with
 | nil => rfl
 | d _ _ ih => simp [ih]
 | own _ _ _ ih => simp [ih]
theorem Rel.congr (R : Rel P W0 M U ⟨st.tm, ob, st.base, st.nt⟩ E Z a W) (h : ∀ i, Aa ob' i = Aa ob i) : Rel P W0 M U ⟨st.tm, ob', st.base, st.nt⟩ E Z a W := by
 have K : Eh W W Z Z U U E E ob ob' := ⟨fun _ h => h, fun _ h => h, fun _ _ => rfl, fun _ _ _ _ => ⟨rfl, rfl, rfl⟩, fun j o _ hj => ⟨o, by rw [← h]; exact hj, D9.refl o⟩⟩
 have hl : ∀ i o, Aa ob' i = some o → Aa ob i = some o := fun i o hi => by rw [← h]; exact hi
 exact R.change K (fun j p hj => (R.ob j p (hl j p hj)).move K ⟨rfl, rfl, rfl⟩ (fun _ _ => rfl)) (fun j p hj => R.ids j p (hl j p hj)) (fun j k p q g h1 h2 => R.inj j k p q g (hl _ _ h1) (hl _ _ h2)) (fun j p g hj => R.free j p g (hl _ _ hj)) (fun j e rows g off hj => R.frz j e rows g off (hl _ _ hj)) R.zlt (fun j p g hj => R.own j p g (hl _ _ hj)) (fun _ _ _ => rfl) (Nat.le_refl _) rfl rfl rfl
theorem Rel.env (R : Rel P W0 M U st E Z a W) (h : ∀ i, U i → E'.box i = E.box i ∧ E'.row i = E.row i ∧ E'.cap i = E.cap i) : Rel P W0 M U st E' Z a W := by
 have K : Eh W W Z Z U U E E' st.ob st.ob := ⟨fun _ h => h, fun _ h => h, fun _ _ => rfl, fun i _ hi _ => h i hi, fun j o _ hj => ⟨o, hj, D9.refl o⟩⟩
 have hb : ∀ i o, Aa st.ob i = some o → Aw E' i o = Aw E i o := fun i o hi => by
  obtain ⟨e1, e2, e3⟩ := h i (R.ids i o hi)
  cases o <;> simp [Aw, e1, e2, e3]
 exact R.change K (fun j p hj => (R.ob j p hj).move K (h j (R.ids j p hj)) (fun _ _ => rfl)) R.ids (fun j k p q g h1 h2 h3 h4 => R.inj j k p q g h1 h2 ((hb _ _ h1).symm.trans h3) ((hb _ _ h2).symm.trans h4)) (fun j p g hj hg => R.free j p g hj ((hb _ _ hj).symm.trans hg)) (fun j e rows g off hj h1 h2 => by
  obtain ⟨_, e2, e3⟩ := h j (R.ids j _ hj)
  exact R.frz j e rows g off hj (by rw [← e3]; exact h1) (by rw [← e2]; exact h2)) R.zlt (fun j p g hj hg => R.own j p g hj ((hb _ _ hj).symm.trans hg)) (fun _ _ _ => rfl) (Nat.le_refl _) rfl rfl rfl
theorem Im : ∀ {bs : List BC} {id n : Nat} {vs : List SV} {obs : List (Nat × Option Ob)}, Ei id bs = (vs, obs, n) → id ≤ n := by
 intro bs
 induction bs with
 | nil => intro id n vs obs h; simp only [Ei, Prod.mk.injEq] at h; obtain ⟨_, _, rfl⟩ := h; exact Nat.le_refl _
 | cons b bs ih =>
  intro id n vs obs h
  cases b with
  | d x =>
   simp only [Ei] at h
   generalize hb : Ei id bs = r at h
   obtain ⟨_, _, n'⟩ := r
   simp only [Prod.mk.injEq] at h
   obtain ⟨_, _, rfl⟩ := h
   exact ih hb
  | own e rows =>
   simp only [Ei] at h
   generalize hb : Ei (id + 1) bs = r at h
   obtain ⟨_, _, n'⟩ := r
   simp only [Prod.mk.injEq] at h
   obtain ⟨_, _, rfl⟩ := h
   have := ih hb
   omega
theorem X9 : ∀ {bs : List BC} {us : List Value} {pls : List Pl} {id n : Nat} {vs : List SV} {obs : List (Nat × Option Ob)} {U : Nat → Prop} {ob : List (Nat × Ob)} {E : Env}, BCs P W Z bs us pls → Ei id bs = (vs, obs, n) →
  Rel P W0 M U ⟨st.tm, ob, st.base, st.nt⟩ E Z a W → (∀ j, id ≤ j → j < n → ¬ U j) → (∀ p g, p ∈ pls → Pl.blk p = some g → (∀ A, Z A → A.block ≠ g) ∧ (M g ∨ W0.heap.size ≤ g) ∧ ∀ j q, Aa ob j = some q → Aw E j q ≠ some g) → (pls.filterMap Pl.blk).Nodup →
  id ≤ n ∧ (∀ j, j ∈ obs.map (·.1) → id ≤ j ∧ j < n) ∧ ∃ E2, Rel P W0 M (fun j => U j ∨ (id ≤ j ∧ j < n)) ⟨st.tm, Am ob obs, st.base, st.nt⟩ E2 Z a W ∧ Aq (Cs P W Z (fun j => U j ∨ (id ≤ j ∧ j < n)) E2 (Am ob obs)) vs us ∧ (∀ j, j < id ∨ n ≤ j → E2.box j = E.box j ∧ E2.row j = E.row j ∧ E2.cap j = E.cap j) ∧ E2.box = E.box ∧ (∀ j, j < id ∨ n ≤ j → Aa (Am ob obs) j = Aa ob j) ∧
   (∀ j q g, id ≤ j → j < n → Aa (Am ob obs) j = some q → Aw E2 j q = some g → ∃ p, p ∈ pls ∧ Pl.blk p = some g) := by
 intro bs
 induction bs with
 | nil =>
  intro us pls id n vs obs U ob E h hb R hU hg hnd
  cases h
  simp only [Ei, Prod.mk.injEq] at hb
  obtain ⟨rfl, rfl, rfl⟩ := hb
  refine ⟨Nat.le_refl _, fun j h => by simp at h, E, R.moreU (fun _ h => .inl h), .nil, fun _ _ => ⟨rfl, rfl, rfl⟩, rfl, fun _ _ => rfl, fun j q g h1 h2 => by omega⟩
 | cons b bs ih =>
  intro us pls id n vs obs U ob E h hb R hU hg hnd
  cases h with
  | d h1 h2 =>
   simp only [Ei] at hb
   generalize hbb : Ei id bs = r at hb
   obtain ⟨vs', obs', n'⟩ := r
   simp only [Prod.mk.injEq] at hb
   obtain ⟨rfl, rfl, rfl⟩ := hb
   obtain ⟨i1, i2, E2, i3, i4, i5, i6, i7, i8⟩ := ih h2 hbb R hU hg hnd
   exact ⟨i1, i2, E2, i3, .cons h1 i4, i5, i6, i7, i8⟩
  | @own e rows pl cap v _ us' pls' h1 hs h2 =>
   simp only [Ei] at hb
   generalize hbb : Ei (id + 1) bs = r at hb
   obtain ⟨vs', obs', n'⟩ := r
   simp only [Prod.mk.injEq] at hb
   obtain ⟨rfl, rfl, rfl⟩ := hb
   have hra : Em P W Z e rows pl cap := h1
   have hE : ∀ j, j ≠ id → (E.setRow id pl cap).box j = E.box j ∧ (E.setRow id pl cap).row j = E.row j ∧ (E.setRow id pl cap).cap j = E.cap j := fun j hj => ⟨rfl, by simp [Env.setRow, hj], by simp [Env.setRow, hj]⟩
   have hblk : Aw (E.setRow id pl cap) id (.arr e false rows) = Pl.blk (pl, cap) := by simp [Aw, Env.setRow, Pl.blk]
   have RA : Rel P W0 M (fun j => U j ∨ j = id) ⟨st.tm, put ob id (.arr e false rows), st.base, st.nt⟩ (E.setRow id pl cap) Z a W := by
    refine Rel.add (st := ⟨st.tm, ob, st.base, st.nt⟩) R (hU id (Nat.le_refl _) (by have := Im hbb; omega)) hE ?_ (fun e' rows' h => by cases h) (fun g hq => ?_)
    ·show Em P W Z e rows ((E.setRow id pl cap).row id) ((E.setRow id pl cap).cap id)
     simp only [Env.setRow, if_true]
     exact hra
    ·rw [hblk] at hq
     exact hg _ g List.mem_cons_self hq
   have hbne : ∀ j q, j ≠ id → Aw (E.setRow id pl cap) j q = Aw E j q := fun j q hj => by
    obtain ⟨e1, e2, e3⟩ := hE j hj
    cases q <;> simp [Aw, e1, e2, e3]
   have hnd' : (pls'.filterMap Pl.blk).Nodup := by
    simp only [List.filterMap_cons] at hnd
    split at hnd
    ·exact hnd
    ·exact (List.nodup_cons.1 hnd).2
   obtain ⟨i1, i2, E2, i3, i4, i5, i6, i7, i8⟩ := ih (U := fun j => U j ∨ j = id) (ob := put ob id (.arr e false rows)) (E := E.setRow id pl cap) h2 hbb RA (fun j hj hjn h => by
    rcases h with h | h
    ·exact hU j (by omega) hjn h
    ·omega) (fun p g hp hq => by
     obtain ⟨g1, g2, g3⟩ := hg p g (List.mem_cons_of_mem _ hp) hq
     refine ⟨g1, g2, fun j q hj hb => ?_⟩
     rcases Fs hj with ⟨rfl, rfl⟩ | ⟨hne, hj⟩
     ·rw [hblk] at hb
      have hmem : g ∈ pls'.filterMap Pl.blk := List.mem_filterMap.2 ⟨p, hp, hq⟩
      simp only [List.filterMap_cons] at hnd
      rw [hb] at hnd
      exact (List.nodup_cons.1 hnd).1 hmem
     ·rw [hbne j q hne] at hb
      exact g3 j q hj hb) hnd'
   have hlid : Aa (Am ob ((id, some (.arr e false rows)) :: obs')) id = some (.arr e false rows) := by
    show Aa (Am (put ob id (.arr e false rows)) obs') id = _
    rw [i7 id (.inl (by omega)), D8, if_pos rfl]
   refine ⟨by omega, fun j hj => ?_, E2, ?_, .cons ?_ (i4.imp fun x y _ h => ?_), fun j hj => ?_, ?_, fun j hj => ?_, fun j q g h3 h4 hj hb => ?_⟩
   ·simp only [List.map_cons, List.mem_cons] at hj
    rcases hj with rfl | hj
    ·omega
    ·have := i2 j hj
     omega
   ·exact i3.moreU (fun j hj => by
     rcases hj with (h | h) | h
     ·exact .inl h
     ·exact .inr (by omega)
     ·exact .inr (by omega))
   ·have hone : v.oneCell' = true := by
     obtain ⟨_, A, hv, _⟩ := hs
     rw [hv]
     rfl
    refine ⟨.inr (by omega), hone, fun e' f' rows' hl => ?_⟩
    rw [hlid] at hl
    cases hl
    obtain ⟨_, e2, e3⟩ := i5 id (.inl (by omega))
    rw [e2, e3]
    simp only [Env.setRow, if_true]
    exact hs
   ·exact h.move ⟨fun _ h => h, fun j hj => by
     rcases hj with (h | h) | h
     ·exact .inl h
     ·exact .inr (by omega)
     ·exact .inr (by omega), fun _ _ => rfl, fun _ _ _ _ => ⟨rfl, rfl, rfl⟩, fun j p _ hj => ⟨p, hj, D9.refl p⟩⟩
   ·obtain ⟨e1, e2, e3⟩ := i5 j (by omega)
    obtain ⟨e4, e5, e6⟩ := hE j (by omega)
    exact ⟨e1.trans e4, e2.trans e5, e3.trans e6⟩
   ·rw [i6]
    rfl
   ·show Aa (Am (put ob id (.arr e false rows)) obs') j = _
    rw [i7 j (by omega), D8, if_neg (by omega)]
   ·by_cases hji : j = id
    ·subst hji
     rw [hlid] at hj
     cases hj
     obtain ⟨_, e2, e3⟩ := i5 j (.inl (by omega))
     refine ⟨(pl, cap), List.mem_cons_self, ?_⟩
     rw [← hb]
     simp [Aw, Pl.blk, e2, e3, Env.setRow]
    ·obtain ⟨p, hp, hq⟩ := i8 j q g (by omega) h4 hj hb
     exact ⟨p, List.mem_cons_of_mem _ hp, hq⟩
end Go.Vm
namespace Go.Vm
open Go
variable {P : Program} {W0 W W' : World} {M U U' : Nat → Prop} {st : St} {E E' : Env} {Z Z' : Addr → Prop} {a : Act} {ob ob' : List (Nat × Ob)} {o : Oper} {u : Up} {tv : TV} {id : Nat}
inductive Ec (P : Program) (W : World) (Z : Addr → Prop) : List Arg → List Value → List (TypeId × Nat) → List Pl → Prop where
 | nil : Ec P W Z [] [] [] []
 | one {x : C} {v : Value} {l : List Arg} {us : List Value} {gs : List (TypeId × Nat)} {pls : List Pl} : Ae P W Z x v → Ec P W Z l us gs pls → Ec P W Z (.v (.one (.c x)) :: l) (v :: us) gs pls
 | agg {xs : List C} {vs : Array Value} {l : List Arg} {us : List Value} {gs : List (TypeId × Nat)} {pls : List Pl} : Aq (Ae P W Z) xs vs.toList → Ec P W Z l us gs pls → Ec P W Z (.v (.agg (xs.map SV.c)) :: l) (.agg vs :: us) gs pls
 | ref {t : TypeId} {bs : List BC} {off g : Nat} {cur : Array Value} {pl : List Pl} {l : List Arg} {us : List Value} {gs : List (TypeId × Nat)} {pls : List Pl} : W.heap[g]? = some (.cells cur t (0, 0)) → BCs P W Z bs cur.toList pl → Ec P W Z l us gs pls →
   Ec P W Z (.ref t bs off :: l) (.pointer (some ⟨g, off, none⟩) :: us) ((t, g) :: gs) (pl ++ pls)
 | fn {g0 : FuncId} {l : List Arg} {us : List Value} {gs : List (TypeId × Nat)} {pls : List Pl} : Ec P W Z l us gs pls → Ec P W Z (.fn g0 :: l) (.func (.func g0) #[] #[] :: us) gs pls
 | rop {e : TypeId} {c : List C} {off : Nat} {v : Value} {l : List Arg} {us : List Value} {gs : List (TypeId × Nat)} {pls : List Pl} : (∃ b : Addr, v = .pointer (some (b.add off)) ∧ ∃ ks, Dy P e = some ks ∧ c.map C.kind = ks ∧ ∀ o x, c[o]? = some x → Z (b.add o) ∧ ∃ u, W.cell? (b.add o) = some u ∧ Ae P W Z x u) → Ec P W Z l us gs pls → Ec P W Z (.rop e c off :: l) (v :: us) gs pls
 | fnr {g0 : FuncId} {fst : Bool} {e : TypeId} {c : List C} {off : Nat} {v : Value} {l : List Arg} {us : List Value} {gs : List (TypeId × Nat)} {pls : List Pl} : (∃ b : Addr, v = .pointer (some (b.add off)) ∧ ∃ ks, Dy P e = some ks ∧ c.map C.kind = ks ∧ ∀ o x, c[o]? = some x → Z (b.add o) ∧ ∃ u, W.cell? (b.add o) = some u ∧ Ae P W Z x u) → Ec P W Z l us gs pls →
   Ec P W Z (.fnr g0 fst e c off :: l) (.func (.func g0) (match fst with | true => #[v] | false => #[]) (match fst with | true => #[] | false => #[v]) :: us) gs pls
 | mv {e : TypeId} {rows : List (List C)} {v : Value} {pl : List Pl} {l : List Arg} {us : List Value} {gs : List (TypeId × Nat)} {pls : List Pl} : BCs P W Z [.own e rows] [v] pl → Ec P W Z l us gs pls → Ec P W Z (.mv e rows :: l) (v :: us) gs (pl ++ pls)
theorem Nx {e : TypeId} {c : List C} {off : Nat} {v : Value} (hZ : ∀ k, Z k → Z' k) (h : ∃ b : Addr, v = .pointer (some (b.add off)) ∧ ∃ ks, Dy P e = some ks ∧ c.map C.kind = ks ∧ ∀ o x, c[o]? = some x → Z (b.add o) ∧ ∃ u, W.cell? (b.add o) = some u ∧ Ae P W Z x u) :
  ∃ b : Addr, v = .pointer (some (b.add off)) ∧ ∃ ks, Dy P e = some ks ∧ c.map C.kind = ks ∧ ∀ o x, c[o]? = some x → Z' (b.add o) ∧ ∃ u, W.cell? (b.add o) = some u ∧ Ae P W Z' x u := by
 obtain ⟨b, h1, ks, h2, h3, h4⟩ := h
 refine ⟨b, h1, ks, h2, h3, fun o x hx => ?_⟩
 obtain ⟨h5, u, h6, h7⟩ := h4 o x hx
 exact ⟨hZ _ h5, u, h6, h7.mono (fun _ _ => rfl) hZ⟩
theorem Ec.mono {l : List Arg} {us : List Value} {gs : List (TypeId × Nat)} {pls : List Pl} (h : Ec P W Z l us gs pls) (hZ : ∀ k, Z k → Z' k) : Ec P W Z' l us gs pls := by
 induction h with
 | nil => exact .nil
 | one h1 _ ih => exact .one (h1.mono (fun _ _ => rfl) hZ) ih
 | agg h1 _ ih => exact .agg (h1.imp fun _ _ _ h => h.mono (fun _ _ => rfl) hZ) ih
 | ref h1 h2 _ ih => exact .ref h1 (h2.mono (fun _ _ => rfl) hZ (fun _ _ _ _ => rfl)) ih
 | fn _ ih => exact .fn ih
 | rop h1 _ ih => exact .rop (Nx hZ h1) ih
 | fnr h1 _ ih => exact .fnr (Nx hZ h1) ih
 | mv h1 _ ih => exact .mv (h1.mono (fun _ _ => rfl) hZ (fun _ _ _ _ => rfl)) ih
theorem Ec.append {l l' : List Arg} {us us' : List Value} {gs gs' : List (TypeId × Nat)} {pls pls' : List Pl} (h : Ec P W Z l us gs pls) (h' : Ec P W Z l' us' gs' pls') : Ec P W Z (l ++ l') (us ++ us') (gs ++ gs') (pls ++ pls') := by
 induction h with
 | nil => exact h'
 | one h1 _ ih => exact .one h1 ih
 | agg h1 _ ih => exact .agg h1 ih
 | ref h1 h2 _ ih => rw [List.append_assoc]; exact .ref h1 h2 ih
 | fn _ ih => exact .fn ih
 | rop h1 _ ih => exact .rop h1 ih
 | fnr h1 _ ih => exact .fnr h1 ih
 | mv h1 _ ih => rw [List.append_assoc]; exact .mv h1 ih
theorem BCs.append {l l' : List BC} {us us' : List Value} {pls pls' : List Pl} (h : BCs P W Z l us pls) (h' : BCs P W Z l' us' pls') : BCs P W Z (l ++ l') (us ++ us') (pls ++ pls') := by
 induction h with
 | nil => exact h'
 | d h1 _ ih => exact .d h1 ih
 | own h1 h2 _ ih => exact .own h1 h2 ih
def bk (ob : List (Nat × Ob)) (E : Env) (i : Nat) : Option Nat := match Aa ob i with
 | some o => Aw E i o
 | none => none
theorem Uq {e : TypeId} (h : okE P e = true) : Em P W Z e [] none 0 := by
 unfold okE at h
 split at h
 ·rename_i ks hk
  refine ⟨Nat.le_refl _, Nat.zero_le _, ks, hk, ?_, (fun r h => by cases h), fun h => absurd h (Nat.lt_irrefl 0)⟩
  split at h
  ·cases h
  ·rename_i hb
   rcases Nat.eq_zero_or_pos (P.cellsOf e) with h0 | h0
   ·rw [Jf h0] at hb
    cases hb
   ·exact h0
 ·cases h
theorem Ur {e : TypeId} : Slc none 0 (P.cellsOf e) 0 ([] : List (List C)).length (.slice none 0 0) := ⟨Nat.le_refl _, none, rfl, fun h => absurd h (Nat.lt_irrefl 0)⟩
theorem Q8 (R : Rel P W0 M U st E Z a W) {v : SV} {w : Value} {b : BC} {m n : List Nat} (hv : Cs P W Z U E st.ob v w) (h : Fm P st v = some (b, m, n)) :
  ∃ pls, BCs P W (ZL P Z E st.ob n) [b] [w] pls ∧ pls.filterMap Pl.blk = m.filterMap (bk st.ob E) := by
 have hsub : ∀ k, Z k → ZL P Z E st.ob n k := fun _ h => .inl h
 cases v with
 | c x =>
  cases x with
  | nil e =>
   simp only [Fm] at h
   split at h
   ·rename_i hok
    cases h
    cases (show Ae P W Z (.nil e) w from hv)
    exact ⟨[(none, 0)], .own (Uq hok) Ur .nil, rfl⟩
   ·cases h
  | int k z => cases h; exact ⟨[], .d ((show Ae P W Z _ w from hv).mono (fun _ _ => rfl) hsub) .nil, rfl⟩
  | bool z => cases h; exact ⟨[], .d ((show Ae P W Z _ w from hv).mono (fun _ _ => rfl) hsub) .nil, rfl⟩
  | str z => cases h; exact ⟨[], .d ((show Ae P W Z _ w from hv).mono (fun _ _ => rfl) hsub) .nil, rfl⟩
  | row e l => cases h; exact ⟨[], .d ((show Ae P W Z _ w from hv).mono (fun _ _ => rfl) hsub) .nil, rfl⟩
  | fn g => cases h; exact ⟨[], .d ((show Ae P W Z _ w from hv).mono (fun _ _ => rfl) hsub) .nil, rfl⟩
 | arr i =>
  have hv' := hv
  obtain ⟨_, _, hv⟩ := hv
  simp only [Fm] at h
  split at h
  ·rename_i e rows hl
   cases h
   refine ⟨[(E.row i, E.cap i)], .own (Em.move (show Em P W Z e rows _ _ from R.ob i _ hl) hsub (fun _ _ => rfl) (fun _ _ _ _ => rfl)) (hv e _ rows hl) .nil, ?_⟩
   simp [bk, hl, Aw, Pl.blk, List.filterMap_cons]
  ·rename_i e rows hl
   cases h
   exact ⟨[], .d (J2 R hv' (x := .row e rows) (by simp [St.toC, hl])) .nil, rfl⟩
  ·cases h
 | sub i lo k =>
  simp only [Fm] at h
  split at h
  ·rename_i e f rows hl
   cases h
   exact ⟨[], .d (J2 R hv (by simp [St.toC, hl])) .nil, rfl⟩
  ·cases h
 | ptr i off => cases h
 | ept i r off => cases h
 | rop e l off => cases h
theorem ZL.left {ids ids' : List Nat} : ∀ k, ZL P Z E ob ids k → ZL P Z E ob (ids ++ ids') k := ZL.mono fun i hi => List.mem_append_left _ hi
theorem ZL.right {ids ids' : List Nat} : ∀ k, ZL P Z E ob ids' k → ZL P Z E ob (ids ++ ids') k := ZL.mono fun i hi => List.mem_append_right _ hi
theorem Xv (R : Rel P W0 M U st E Z a W) : ∀ {l : List SV} {us : List Value} {bs : List BC} {m n : List Nat}, Aq (Cs P W Z U E st.ob) l us → Ht P st l = some (bs, m, n) →
  ∃ pls, BCs P W (ZL P Z E st.ob n) bs us pls ∧ pls.filterMap Pl.blk = m.filterMap (bk st.ob E) := by
 intro l
 induction l with
 | nil => intro us bs m n h hb; cases h; cases hb; exact ⟨[], .nil, rfl⟩
 | cons v l ih =>
  intro us bs m n h hb
  cases h with
  | cons h1 h2 =>
   simp only [Ht] at hb
   split at hb
   ·rename_i b m' n' hv
    split at hb
    ·rename_i bs' ms' ns' hvs
     cases hb
     obtain ⟨p1, q1, e1⟩ := Q8 R h1 hv
     obtain ⟨p2, q2, e2⟩ := ih h2 hvs
     refine ⟨p1 ++ p2, BCs.append (l := [b]) (us := [_]) (q1.mono (fun _ _ => rfl) ZL.left (fun _ _ _ _ => rfl)) (q2.mono (fun _ _ => rfl) ZL.right (fun _ _ _ _ => rfl)), by simp [List.filterMap_append, e1, e2]⟩
    ·cases hb
   ·cases hb
def OC (P : Program) (E : Env) (i : Nat) : Ob → Addr → Prop
 | .arr e _ rows, A => FC P E i e rows.length A
 | .box t l, A => Aw E i (.box t l) = some A.block
 | .iter s p, A => Aw E i (.iter s p) = some A.block
 | .mp k e l, A => Aw E i (.mp k e l) = some A.block
theorem OC.blk {i : Nat} {o : Ob} {A : Addr} (h : OC P E i o A) : Aw E i o = some A.block := by
 cases o with
 | arr e f rows => exact FC.blk h
 | box t l => exact h
 | iter s p => exact h
 | mp k e l => exact h
def ZR (P : Program) (Z : Addr → Prop) (E : Env) (ob : List (Nat × Ob)) (ids : List Nat) : Addr → Prop := fun k => Z k ∨ ∃ i, i ∈ ids ∧ ∃ o, Aa ob i = some o ∧ OC P E i o k
theorem ZL.toR {ids : List Nat} : ∀ k, ZL P Z E ob ids k → ZR P Z E ob ids k := fun k h => by
 rcases h with h | ⟨i, hi, e, f, rows, h1, h2⟩
 ·exact .inl h
 ·exact .inr ⟨i, hi, _, h1, h2⟩
theorem ZR.mono {ids ids' : List Nat} (h : ∀ i, i ∈ ids → i ∈ ids') : ∀ k, ZR P Z E ob ids k → ZR P Z E ob ids' k := fun k hk => by
 rcases hk with hk | ⟨i, hi, o, h1, h2⟩
 ·exact .inl hk
 ·exact .inr ⟨i, h i hi, o, h1, h2⟩
theorem ZR.left {ids ids' : List Nat} : ∀ k, ZR P Z E ob ids k → ZR P Z E ob (ids ++ ids') k := ZR.mono fun i hi => List.mem_append_left _ hi
theorem ZR.right {ids ids' : List Nat} : ∀ k, ZR P Z E ob ids' k → ZR P Z E ob (ids ++ ids') k := ZR.mono fun i hi => List.mem_append_right _ hi
def If (st : St) (E : Env) (l : List Nat) (tgs : List (TypeId × Nat)) : Prop := Aq (fun i tg => E.box i = tg.2 ∧ ∃ cs, Aa st.ob i = some (.box tg.1 cs)) l tgs
theorem Lm (R : Rel P W0 M U st E Z a W) {v : TV} {w : Value} {A : D3} (hv : D0 P W Z U E st.ob v w) (h : En P st v = some A) :
  ∃ tgs pls, Ec P W (ZR P Z E st.ob A.lent) A.a [w] tgs pls ∧ If st E A.boxes tgs ∧ pls.filterMap Pl.blk = A.moved.filterMap (bk st.ob E) := by
 cases hv with
 | one hv =>
  rename_i sv
  have hdat : ∀ x, st.toC sv = some x → Ae P W (ZL P Z E st.ob sv.ids) x.canon w := fun x hx => (J2 R hv hx).canon
  cases sv with
  | ptr i off =>
   simp only [En] at h
   split at h
   ·rename_i t l hl
    split at h
    ·rename_i bs ms ns hcs
     cases h
     obtain ⟨cur, h1, h2⟩ := R.ob i _ hl
     obtain ⟨pls, h3, h4⟩ := Xv R h2 hcs
     rw [hv.2.2 t l hl]
     have key := Ec.ref (off := off) h1 h3 .nil
     rw [List.append_nil] at key
     exact ⟨_, pls, key.mono ZL.toR, .cons ⟨rfl, l, hl⟩ .nil, h4⟩
    ·cases h
   ·cases h
  | c x =>
   simp only [En, St.toC] at h
   cases h
   exact ⟨[], [], .one ((hdat x rfl).mono (fun _ _ => rfl) ZL.toR) .nil, .nil, rfl⟩
  | arr i =>
   simp only [En] at h
   split at h
   ·rename_i x hx
    cases h
    exact ⟨[], [], .one ((hdat x hx).mono (fun _ _ => rfl) ZL.toR) .nil, .nil, rfl⟩
   ·cases h
  | sub i lo n =>
   simp only [En] at h
   split at h
   ·rename_i x hx
    cases h
    exact ⟨[], [], .one ((hdat x hx).mono (fun _ _ => rfl) ZL.toR) .nil, .nil, rfl⟩
   ·cases h
  | ept i r off => simp [En, St.toC] at h
  | rop e l off =>
   simp only [En] at h
   cases h
   exact ⟨[], [], .rop (Nx (fun _ h => .inl h) hv) .nil, .nil, rfl⟩
 | @agg l us hv =>
  simp only [En] at h
  split at h
  ·rename_i cs hcs
   cases h
   have h1 := (N8 R hv hcs).imp (S := fun x y => Ae P W (ZR P Z E st.ob (Cy l)) x.canon y) fun _ _ _ h => h.canon.mono (fun _ _ => rfl) ZL.toR
   have e1 : (cs.map fun x => SV.c x.canon) = (cs.map C.canon).map SV.c := by simp
   refine ⟨[], [], ?_, .nil, rfl⟩
   show Ec P W (ZR P Z E st.ob (Cy l)) [.v (.agg (cs.map fun x => .c x.canon))] _ _ _
   rw [e1]
   exact .agg (Aq.map_left h1) .nil
  ·cases h
 | tup _ _ => cases h
 | fn g =>
  cases h
  exact ⟨[], [], .fn .nil, .nil, rfl⟩
 | @fnp g fst i off u hv =>
  simp only [En] at h
  split at h
  ·rename_i t l hl
   split at h
   ·rename_i cs ks hcs hks
    split at h
    ·rename_i hk
     cases h
     obtain ⟨cur, h1, h2⟩ := R.ob i _ hl
     have h3 := N8 R h2 hcs
     refine ⟨[], [], .fnr ⟨⟨E.box i, 0, none⟩, ?_, ks, hks, of_decide_eq_true hk, fun o x hx => ?_⟩ .nil, .nil, rfl⟩
     ·rw [hv.2.2 t l hl, E9, Nat.zero_add]
     ·rw [List.getElem?_map, Option.map_eq_some_iff] at hx
      obtain ⟨y, hy, rfl⟩ := hx
      obtain ⟨w, hw, hr⟩ := h3.get o y hy
      refine ⟨.inr ⟨i, List.mem_cons_self, _, hl, by show some (E.box i) = some _; rw [Qx]⟩, w, ?_, hr.canon.mono (fun _ _ => rfl) (fun k hk => ZR.mono (fun j hj => List.mem_cons_of_mem _ hj) k (ZL.toR k hk))⟩
      rw [E9, Nat.zero_add, Io h1]
      simpa using hw
    ·cases h
   ·cases h
  ·cases h
 | itr hv => cases h
 | @fnr g fst e c off u hv =>
  cases h
  exact ⟨[], [], .fnr (Nx (fun _ h => .inl h) hv) .nil, .nil, rfl⟩
theorem Rb (R : Rel P W0 M U st E Z a W) {v : SV} {w : Value} {A : D3} (hv : D0 P W Z U E st.ob (.one v) w) (h : Gv P st v = some A) :
  ∃ tgs pls, Ec P W (ZR P Z E st.ob A.lent) A.a [w] tgs pls ∧ If st E A.boxes tgs ∧ pls.filterMap Pl.blk = A.moved.filterMap (bk st.ob E) := by
 unfold Gv at h
 split at h
 ·rename_i e rows ms ns hc
  cases h
  cases hv with
  | one hv =>
   obtain ⟨pls, h1, h2⟩ := Q8 R hv hc
   have key := Ec.mv h1 .nil
   rw [List.append_nil] at key
   exact ⟨[], pls, key.mono ZL.toR, .nil, h2⟩
 ·exact Lm R hv h
theorem Xz (R : Rel P W0 M U st E Z a W) {f : FuncId} {j : Nat} {v : TV} {w : Value} {A : D3} (hv : D0 P W Z U E st.ob v w) (h : Il P st f j v = some A) :
  ∃ tgs pls, Ec P W (ZR P Z E st.ob A.lent) A.a [w] tgs pls ∧ If st E A.boxes tgs ∧ pls.filterMap Pl.blk = A.moved.filterMap (bk st.ob E) := by
 unfold Il at h
 split at h
 ·split at h
  ·exact Rb R hv h
  ·exact Lm R hv h
 ·split at h
  ·exact Rb R hv h
  ·exact Lm R hv h
 ·exact Lm R hv h
theorem Rf (R : Rel P W0 M U st E Z a W) {f : FuncId} : ∀ {xs : List Operand} {ts : List TypeId} {A : D3} {j : Nat}, Ge P st f j xs ts = some A →
  ∃ tgs pls, Ec P W (ZR P Z E st.ob A.lent) A.a (xs.map a.eval) tgs pls ∧ If st E A.boxes tgs ∧ pls.filterMap Pl.blk = A.moved.filterMap (bk st.ob E) := by
 intro xs
 induction xs with
 | nil => intro ts A j h; simp only [Ge, Option.some.injEq] at h; subst h; exact ⟨[], [], .nil, .nil, rfl⟩
 | cons x xs ih =>
  intro ts A j h
  simp only [Ge] at h
  split at h
  ·rename_i tv ht
   split at h
   ·rename_i A1 hA
    split at h
    ·rename_i A2 hA2
     cases h
     obtain ⟨g1, p1, a1, b1, c1⟩ := Xz R (G6 R ht) hA
     obtain ⟨g2, p2, a2, b2, c2⟩ := ih hA2
     refine ⟨g1 ++ g2, p1 ++ p2, Ec.append (us := [_]) (a1.mono ZR.left) (a2.mono ZR.right), Aq.append b1 b2, ?_⟩
     simp [List.filterMap_append, c1, c2]
    ·cases h
   ·cases h
  ·cases h
theorem Ace : ∀ {l : List Nat}, L3 l = true → l.Nodup := by
 intro l
 induction l with
 | nil => intro _; exact List.nodup_nil
 | cons i l ih =>
  intro h
  simp only [L3] at h
  split at h
  ·cases h
  ·rename_i hc
   exact List.nodup_cons.2 ⟨by simpa using hc, ih h⟩
theorem Lj {l m : List Nat} (h : Ja l m = true) : ∀ i, i ∈ l → i ∉ m := by
 intro i hi hm
 unfold Ja at h
 have := List.all_eq_true.1 h i hi
 split at this
 ·cases this
 ·rename_i hc
  exact absurd hm (by simpa using hc)
theorem Rr (R : Rel P W0 M U st E Z a W) : ∀ {l : List Nat}, l.Nodup → (l.filterMap (bk st.ob E)).Nodup := by
 have hinj : ∀ i j g, bk st.ob E i = some g → bk st.ob E j = some g → i = j := by
  intro i j g hi hj
  unfold bk at hi hj
  split at hi
  ·rename_i o ho
   split at hj
   ·rename_i p hp
    exact R.inj i j o p g ho hp hi hj
   ·cases hj
  ·cases hi
 intro l
 induction l with
 | nil => intro _; exact List.nodup_nil
 | cons i l ih =>
  intro h
  obtain ⟨h1, h2⟩ := List.nodup_cons.1 h
  rw [List.filterMap_cons]
  split
  ·exact ih h2
  ·rename_i g hg
   refine List.nodup_cons.2 ⟨fun hm => ?_, ih h2⟩
   obtain ⟨j, hj, hj2⟩ := List.mem_filterMap.1 hm
   exact h1 (hinj i j g hg hj2 ▸ hj)
theorem Ru : ∀ {l : List Nat} {tgs : List (TypeId × Nat)}, If st E l tgs → tgs.map (·.2) = l.filterMap (bk st.ob E) := by
 intro l tgs h
 induction h with
 | nil => rfl
 | cons h1 _ ih =>
  obtain ⟨h1, cs, h2⟩ := h1
  simp [List.filterMap_cons, bk, h2, Aw, h1, ← ih]
end Go.Vm
namespace Go.Vm
open Go
variable {P : Program} {W0 W W' : World} {M U U' : Nat → Prop} {st : St} {E E' : Env} {Z Z' : Addr → Prop} {a : Act} {ob ob' : List (Nat × Ob)} {o : Oper} {u : Up} {tv : TV} {id : Nat}
inductive Gj (P : Program) (W : World) (Z : Addr → Prop) : BT → Value → List Pl → Prop where
 | one {b : BC} {v : Value} {pls : List Pl} : BCs P W Z [b] [v] pls → Gj P W Z (.one b) v pls
 | agg {l : List BC} {us : Array Value} {pls : List Pl} : BCs P W Z l us.toList pls → Gj P W Z (.agg l) (.agg us) pls
inductive Gb (P : Program) (W : World) (Z : Addr → Prop) : List BT → List Value → List Pl → Prop where
 | nil : Gb P W Z [] [] []
 | cons {b : BT} {v : Value} {pl : List Pl} {l : List BT} {us : List Value} {pls : List Pl} : Gj P W Z b v pl → Gb P W Z l us pls → Gb P W Z (b :: l) (v :: us) (pl ++ pls)
inductive Hr (P : Program) (W : World) (Z : Addr → Prop) : BT → Value → List Pl → Prop where
 | of {b : BT} {v : Value} {pls : List Pl} : Gj P W Z b v pls → Hr P W Z b v pls
 | tup {l : List BT} {us : Array Value} {pls : List Pl} : Gb P W Z l us.toList pls → Hr P W Z (.tup l) (.tuple us) pls
inductive F9 (P : Program) (W : World) (Z : Addr → Prop) : List (List BC) → List (TypeId × Nat) → List Pl → Prop where
 | nil : F9 P W Z [] [] []
 | cons {bs : List BC} {t : TypeId} {g : Nat} {cur : Array Value} {pl : List Pl} {l : List (List BC)} {gs : List (TypeId × Nat)} {pls : List Pl} : W.heap[g]? = some (.cells cur t (0, 0)) → BCs P W Z bs cur.toList pl → F9 P W Z l gs pls → F9 P W Z (bs :: l) ((t, g) :: gs) (pl ++ pls)
structure Lg (P : Program) (W : World) (Z : Addr → Prop) (M : Nat → Prop) (tgs : List (TypeId × Nat)) (R : Res) (v : Value) (W' : World) (Z' : Addr → Prop) (pls plr : List Pl) : Prop where
 res : Hr P W' Z' R.r v pls
 refs : F9 P W' Z' R.refs tgs plr
 nodup : (tgs.map (·.2) ++ (pls.filterMap Pl.blk ++ plr.filterMap Pl.blk)).Nodup
 own : ∀ g, g ∈ tgs.map (·.2) ++ (pls.filterMap Pl.blk ++ plr.filterMap Pl.blk) → (∀ A, Z' A → A.block ≠ g) ∧ (M g ∨ W.heap.size ≤ g)
 zz : ∀ k, Z k → Z' k
 z : ∀ A, Z' A → Z A ∨ M A.block ∨ W.heap.size ≤ A.block
 zlt : ∀ A, Z' A → A.block < W'.heap.size
 frame : ∀ k, k < W.heap.size → ¬ M k → W'.heap[k]? = W.heap[k]?
 size : W.heap.size ≤ W'.heap.size
 os : W'.os = W.os
 tape : W'.tape = W.tape
 output : W'.output = W.output
def Ig (P : Program) (f : FuncId) (args : List Arg) (R : Res) : Prop :=
 (∃ fn c, P.funcs[f]? = some fn ∧ (fn.name == "runtime.NumGoroutine") = false ∧ fn.body = some c) ∧
 ∀ (vals : List Value) (W : World) (Z : Addr → Prop) (M : Nat → Prop) (tgs : List (TypeId × Nat)) (pls : List Pl), Ih P W M → Ec P W Z args vals tgs pls → (tgs.map (·.2) ++ pls.filterMap Pl.blk).Nodup →
  (∀ g, g ∈ tgs.map (·.2) ++ pls.filterMap Pl.blk → M g ∧ ∀ A, Z A → A.block ≠ g) → (∀ A, Z A → A.block < W.heap.size) →
  Calls P f vals.toArray W fun e W' => ∃ v Z' p1 p2, e = .returned v ∧ Lg P W Z M tgs R v W' Z' p1 p2
def Pk (P : Program) (j : Nat) (W : World) (E : Env) (st : St) : List Nat → List (Nat × Option Ob)
 | [] => []
 | i :: l => match Aa st.ob i with
  | some (.box t cs) => match W.heap[E.box i]? with
   | some (.cells cur _ _) => (i, some (.box t (List.replicate cur.size (.arr j)))) :: Pk P j W E st l
   | _ => Pk P j W E st l
  | _ => Pk P j W E st l
theorem Xa {j : Nat} (hj : U j) (hn : Aa ob j = none) : ∀ {us : List Value}, (∀ u, u ∈ us → u.oneCell' = true) → Aq (Cs P W Z U E ob) (List.replicate us.length (.arr j)) us := by
 intro us
 induction us with
 | nil => intro _; exact .nil
 | cons u us ih =>
  intro h
  exact .cons ⟨hj, h u List.mem_cons_self, fun e f rows hl => by rw [hn] at hl; cases hl⟩ (ih fun v hv => h v (List.mem_cons_of_mem _ hv))
theorem BCs.cells {l : List BC} {us : List Value} {pls : List Pl} (h : BCs P W Z l us pls) : ∀ u, u ∈ us → u.oneCell' = true := by
 induction h with
 | nil => intro u hu; cases hu
 | d h1 _ ih =>
  intro u hu
  rcases List.mem_cons.1 hu with rfl | hu
  ·exact h1.one
  ·exact ih u hu
 | own h1 h2 _ ih =>
  intro u hu
  rcases List.mem_cons.1 hu with rfl | hu
  ·obtain ⟨_, A, rfl, _⟩ := h2
   rfl
  ·exact ih u hu
theorem Rel.turn (R : Rel P W0 M U st E Z a W) {bx mv : List Nat} {j : Nat} (hj : ¬ U j)
  (hob : ∀ i, i ∉ mv → i ∉ bx → Aa ob' i = Aa st.ob i) (hmv : ∀ i, i ∈ mv → Aa ob' i = none)
  (hbx : ∀ i, i ∈ bx → ∃ t cs cur, Aa st.ob i = some (.box t cs) ∧ W'.heap[E.box i]? = some (.cells cur t (0, 0)) ∧ (∀ u, u ∈ cur.toList → u.oneCell' = true) ∧ Aa ob' i = some (.box t (List.replicate cur.size (.arr j))))
  (hz : ∀ A, Z A → W'.cell? A = W.cell? A) (hb : ∀ i o g, Aa st.ob i = some o → i ∉ mv → i ∉ bx → Aw E i o = some g → W'.heap[g]? = W.heap[g]?)
  (hframe : ∀ k, k < W0.heap.size → ¬ M k → W'.heap[k]? = W.heap[k]?) (hsize : W.heap.size ≤ W'.heap.size) (hos : W'.os = W.os) (htape : W'.tape = W.tape) (hout : W'.output = W.output) :
  Rel P W0 M (fun i => U i ∨ i = j) ⟨st.tm, ob', st.base, st.nt⟩ E Z a W' := by
 have key : ∀ i o', Aa ob' i = some o' → ∃ o, Aa st.ob i = some o ∧ D9 o o' ∧ ((i ∉ mv ∧ i ∉ bx ∧ o' = o) ∨ (i ∈ bx ∧ ∃ t cur, o' = .box t (List.replicate cur.size (.arr j)) ∧ W'.heap[E.box i]? = some (.cells cur t (0, 0)) ∧ (∀ u, u ∈ cur.toList → u.oneCell' = true))) := by
  intro i o' h
  by_cases h1 : i ∈ mv
  ·rw [hmv i h1] at h
   cases h
  ·by_cases h2 : i ∈ bx
   ·obtain ⟨t, cs, cur, h3, h4, h5, h6⟩ := hbx i h2
    rw [h6] at h
    cases h
    exact ⟨_, h3, trivial, .inr ⟨h2, t, cur, rfl, h4, h5⟩⟩
   ·rw [hob i h1 h2] at h
    exact ⟨o', h, D9.refl _, .inl ⟨h1, h2, rfl⟩⟩
 have hjn : Aa ob' j = none := by
  cases hl : Aa ob' j with
  | none => rfl
  | some o' =>
   obtain ⟨o, h1, _⟩ := key j o' hl
   exact absurd (R.ids j o h1) hj
 have K : Eh W W' Z Z U (fun i => U i ∨ i = j) E E st.ob ob' := ⟨fun _ h => h, fun _ h => .inl h, hz, fun _ _ _ _ => ⟨rfl, rfl, rfl⟩, fun i o' _ h => by
  obtain ⟨o, h1, h2, _⟩ := key i o' h
  exact ⟨o, h1, h2⟩⟩
 have hblk : ∀ i o', Aa ob' i = some o' → ∃ o, Aa st.ob i = some o ∧ Aw E i o' = Aw E i o := fun i o' h => by
  obtain ⟨o, h1, h2, _⟩ := key i o' h
  exact ⟨o, h1, D9.blk h2 i⟩
 refine R.change K (fun i o' h => ?_) (fun i o' h => ?_) (fun i k p q g h1 h2 h3 h4 => ?_) (fun i p g h1 h2 h3 => ?_) (fun i e rows g off h1 h2 h2' => ?_) (fun k hk => Nat.lt_of_lt_of_le (R.zlt k hk) hsize) (fun i p g h1 h2 => ?_) hframe hsize hos htape hout
 ·obtain ⟨o, h1, h2, h3⟩ := key i o' h
  rcases h3 with ⟨h3, h4, rfl⟩ | ⟨h3, t, cur, rfl, h4, h5⟩
  ·exact (R.ob i _ h1).move K ⟨rfl, rfl, rfl⟩ (fun g hg => hb i _ g h1 h3 h4 hg)
  ·have := Xa (P := P) (W := W') (Z := Z) (E := E) (U := fun i => U i ∨ i = j) (.inr rfl) hjn h5
   rw [Array.length_toList] at this
   exact ⟨cur, h4, this⟩
 ·obtain ⟨o, h1, _⟩ := key i o' h
  exact .inl (R.ids i o h1)
 ·obtain ⟨p', h5, h6⟩ := hblk i p h1
  obtain ⟨q', h7, h8⟩ := hblk k q h2
  exact R.inj i k p' q' g h5 h7 (h6 ▸ h3) (h8 ▸ h4)
 ·obtain ⟨o, h4, h5, h6⟩ := key i p h1
  rw [D9.blk h5 i] at h2
  refine R.free i o g h4 h2 (fun e rows he => ?_)
  subst he
  rcases h6 with ⟨_, _, rfl⟩ | ⟨_, t, cur, rfl, _⟩
  ·exact h3 e rows rfl
  ·exact h5.elim
 ·obtain ⟨o, h4, h5, h6⟩ := key i _ h1
  rcases h6 with ⟨_, _, rfl⟩ | ⟨_, t, cur, h6, _⟩
  ·exact R.frz i e rows g off h4 h2 h2'
  ·cases h6
 ·obtain ⟨p', h5, h6⟩ := hblk i p h1
  exact R.own i p' g h5 (h6 ▸ h2)
theorem Rel.retell (R : Rel P W0 M U st E Z a W) {i : Nat} {t : TypeId} {cs cs' : List SV} {cur : Array Value} (h : Aa st.ob i = some (.box t cs)) (hg : W.heap[E.box i]? = some (.cells cur t (0, 0))) (hl : Aq (Cs P W Z U E st.ob) cs' cur.toList) :
  Rel P W0 M U ⟨st.tm, put st.ob i (.box t cs'), st.base, st.nt⟩ E Z a W := by
 refine R.upd h (o' := .box t cs') trivial (fun _ h => h) (fun _ _ => rfl) (fun _ _ => rfl) ⟨cur, hg, ?_⟩ (fun k hk => .inl hk) (fun _ e rows hh => by cases hh) (fun e rows g off hh => by cases hh) rfl rfl rfl rfl
 have K : Eh W W Z Z U U E E st.ob (put st.ob i (.box t cs')) := by
  refine ⟨fun _ h => h, fun _ h => h, fun _ _ => rfl, fun _ _ _ _ => ⟨rfl, rfl, rfl⟩, fun j p _ hj => ?_⟩
  rcases Fs hj with ⟨rfl, rfl⟩ | ⟨_, hj⟩
  ·exact ⟨_, h, trivial⟩
  ·exact ⟨p, hj, D9.refl p⟩
 exact hl.imp fun _ _ _ h => h.move K
end Go.Vm
namespace Go.Vm
open Go
variable {P : Program} {W0 W W' : World} {M U U' : Nat → Prop} {st : St} {E E' : Env} {Z Z' : Addr → Prop} {a : Act} {ob ob' : List (Nat × Ob)} {o : Oper} {u : Up} {tv : TV} {id : Nat}
structure F8 (P : Program) (W0 : World) (M : Nat → Prop) (st : St) (a : Act) (W : World) (Z : Addr → Prop) (ob : List (Nat × Ob)) (U : Nat → Prop) (E : Env) (id n : Nat) (obs : List (Nat × Option Ob)) (pls : List Pl) (E2 : Env) : Prop where
 le : id ≤ n
 keys : ∀ j, j ∈ obs.map (·.1) → id ≤ j ∧ j < n
 rel : Rel P W0 M (fun j => U j ∨ (id ≤ j ∧ j < n)) ⟨st.tm, Am ob obs, st.base, st.nt⟩ E2 Z a W
 env : ∀ j, j < id ∨ n ≤ j → E2.box j = E.box j ∧ E2.row j = E.row j ∧ E2.cap j = E.cap j
 box : E2.box = E.box
 other : ∀ j, j < id ∨ n ≤ j → Aa (Am ob obs) j = Aa ob j
 new : ∀ j q g, id ≤ j → j < n → Aa (Am ob obs) j = some q → Aw E2 j q = some g → ∃ p, p ∈ pls ∧ Pl.blk p = some g
def May (W0 : World) (M : Nat → Prop) (Z : Addr → Prop) (ob : List (Nat × Ob)) (E : Env) (pls : List Pl) : Prop := ∀ p g, p ∈ pls → Pl.blk p = some g → (∀ A, Z A → A.block ≠ g) ∧ (M g ∨ W0.heap.size ≤ g) ∧ ∀ j q, Aa ob j = some q → Aw E j q ≠ some g
theorem May.left {pls pls' : List Pl} (h : May W0 M Z ob E (pls ++ pls')) : May W0 M Z ob E pls := fun p g hp => h p g (List.mem_append_left _ hp)
theorem May.right {pls pls' : List Pl} (h : May W0 M Z ob E (pls ++ pls')) : May W0 M Z ob E pls' := fun p g hp => h p g (List.mem_append_right _ hp)
variable {n m : Nat} {obs obs2 : List (Nat × Option Ob)} {pls pls2 : List Pl} {E2 E3 : Env}
theorem F8.blk (B : F8 P W0 M st a W Z ob U E id n obs pls E2) {j : Nat} {q : Ob} {g : Nat} (h1 : Aa (Am ob obs) j = some q) (h2 : Aw E2 j q = some g) : (Aa ob j = some q ∧ Aw E j q = some g) ∨ ∃ p, p ∈ pls ∧ Pl.blk p = some g := by
 by_cases hj : id ≤ j ∧ j < n
 ·exact .inr (B.new j q g hj.1 hj.2 h1 h2)
 ·have hj' : j < id ∨ n ≤ j := by omega
  obtain ⟨e1, e2, e3⟩ := B.env j hj'
  refine .inl ⟨by rw [← B.other j hj']; exact h1, ?_⟩
  rw [← h2]
  cases q <;> simp [Aw, e1, e2, e3]
theorem F8.may (B : F8 P W0 M st a W Z ob U E id n obs pls E2) (h : May W0 M Z ob E pls2) (hnd : (pls.filterMap Pl.blk ++ pls2.filterMap Pl.blk).Nodup) : May W0 M Z (Am ob obs) E2 pls2 := by
 intro p g hp hg
 obtain ⟨h1, h2, h3⟩ := h p g hp hg
 refine ⟨h1, h2, fun j q hj hq => ?_⟩
 rcases B.blk hj hq with ⟨h4, h5⟩ | ⟨p', hp', hg'⟩
 ·exact h3 j q h4 h5
 ·exact (List.nodup_append.1 hnd).2.2 g (List.mem_filterMap.2 ⟨p', hp', hg'⟩) g (List.mem_filterMap.2 ⟨p, hp, hg⟩) rfl
theorem F8.keeps (B : F8 P W0 M st a W Z ob U E id n obs pls E2) (hU : ∀ j, id ≤ j → j < n → ¬ U j) : Eh W W Z Z U (fun j => U j ∨ (id ≤ j ∧ j < n)) E E2 ob (Am ob obs) := by
 have hne : ∀ i, U i → i < id ∨ n ≤ i := fun i hi => by
  by_cases hj : id ≤ i ∧ i < n
  ·exact absurd hi (hU i hj.1 hj.2)
  ·omega
 exact ⟨fun _ h => h, fun _ h => .inl h, fun _ _ => rfl, fun i _ hi _ => B.env i (hne i hi), fun i o' hi h => ⟨o', by rw [← B.other i (hne i hi)]; exact h, D9.refl _⟩⟩
theorem F8.trans (B : F8 P W0 M st a W Z ob U E id n obs pls E2) (B2 : F8 P W0 M st a W Z (Am ob obs) (fun j => U j ∨ (id ≤ j ∧ j < n)) E2 n m obs2 pls2 E3) : F8 P W0 M st a W Z ob U E id m (obs ++ obs2) (pls ++ pls2) E3 := by
 have h1 := B.le
 have h2 := B2.le
 refine ⟨by omega, fun j hj => ?_, ?_, fun j hj => ?_, B2.box.trans B.box, fun j hj => ?_, fun j q g h3 h4 h5 h6 => ?_⟩
 ·rw [List.map_append, List.mem_append] at hj
  rcases hj with hj | hj
  ·have := B.keys j hj; omega
  ·have := B2.keys j hj; omega
 ·rw [Hl]
  exact B2.rel.moreU (fun j hj => by
   rcases hj with (h | h) | h
   ·exact .inl h
   ·exact .inr (by omega)
   ·exact .inr (by omega))
 ·obtain ⟨e1, e2, e3⟩ := B2.env j (by omega)
  obtain ⟨e4, e5, e6⟩ := B.env j (by omega)
  exact ⟨e1.trans e4, e2.trans e5, e3.trans e6⟩
 ·rw [Hl, B2.other j (by omega), B.other j (by omega)]
 ·rw [Hl] at h5
  rcases B2.blk h5 h6 with ⟨h7, h8⟩ | ⟨p, hp, hg⟩
  ·by_cases hj : j < n
   ·obtain ⟨p, hp, hg⟩ := B.new j q g h3 hj h7 h8
    exact ⟨p, List.mem_append_left _ hp, hg⟩
   ·obtain ⟨p, hp, hg⟩ := B2.new j q g (by omega) h4 h5 h6
    exact ⟨p, List.mem_append_right _ hp, hg⟩
  ·exact ⟨p, List.mem_append_right _ hp, hg⟩
theorem J6 {bs : List BC} {us : List Value} {vs : List SV} (h : BCs P W Z bs us pls) (hb : Ei id bs = (vs, obs, n)) (R : Rel P W0 M U ⟨st.tm, ob, st.base, st.nt⟩ E Z a W) (hU : ∀ j, id ≤ j → j < n → ¬ U j) (hm : May W0 M Z ob E pls) (hnd : (pls.filterMap Pl.blk).Nodup) :
  ∃ E2, F8 P W0 M st a W Z ob U E id n obs pls E2 ∧ Aq (Cs P W Z (fun j => U j ∨ (id ≤ j ∧ j < n)) E2 (Am ob obs)) vs us := by
 obtain ⟨i1, i2, E2, i3, i4, i5, i6, i7, i8⟩ := X9 h hb R hU hm hnd
 exact ⟨E2, ⟨i1, i2, i3, i5, i6, i7, i8⟩, i4⟩
theorem Oq {b : BT} {v : Value} (h : Gj P W Z b v pls) (hb : Fw id b = (tv, obs, n)) (R : Rel P W0 M U ⟨st.tm, ob, st.base, st.nt⟩ E Z a W) (hU : ∀ j, id ≤ j → j < n → ¬ U j) (hm : May W0 M Z ob E pls) (hnd : (pls.filterMap Pl.blk).Nodup) :
  ∃ E2, F8 P W0 M st a W Z ob U E id n obs pls E2 ∧ D0 P W Z (fun j => U j ∨ (id ≤ j ∧ j < n)) E2 (Am ob obs) tv v := by
 cases h with
 | one h =>
  simp only [Fw] at hb
  generalize hbc : Ei id _ = r at hb
  obtain ⟨vs, obs', n'⟩ := r
  cases vs with
  | nil =>
   simp only [Prod.mk.injEq] at hb
   obtain ⟨rfl, rfl, rfl⟩ := hb
   obtain ⟨E2, B, hv⟩ := J6 h hbc R hU hm hnd
   cases hv
  | cons x vs =>
   simp only [Prod.mk.injEq] at hb
   obtain ⟨rfl, rfl, rfl⟩ := hb
   obtain ⟨E2, B, hv⟩ := J6 h hbc R hU hm hnd
   cases hv with
   | cons h1 _ => exact ⟨E2, B, .one h1⟩
 | agg h =>
  simp only [Fw] at hb
  generalize hbc : Ei id _ = r at hb
  obtain ⟨vs, obs', n'⟩ := r
  simp only [Prod.mk.injEq] at hb
  obtain ⟨rfl, rfl, rfl⟩ := hb
  obtain ⟨E2, B, hv⟩ := J6 h hbc R hU hm hnd
  exact ⟨E2, B, .agg hv⟩
theorem M1 {b : BT} (h : Fw id b = (tv, obs, n)) : id ≤ n := by
 cases b with
 | one b =>
  simp only [Fw] at h
  generalize hbc : Ei id _ = r at h
  obtain ⟨vs, obs', n'⟩ := r
  cases vs with
  | nil =>
   simp only [Prod.mk.injEq] at h
   obtain ⟨_, _, rfl⟩ := h
   exact Im hbc
  | cons x vs =>
   simp only [Prod.mk.injEq] at h
   obtain ⟨_, _, rfl⟩ := h
   exact Im hbc
 | agg l =>
  simp only [Fw] at h
  generalize hbc : Ei id _ = r at h
  obtain ⟨vs, obs', n'⟩ := r
  simp only [Prod.mk.injEq] at h
  obtain ⟨_, _, rfl⟩ := h
  exact Im hbc
 | tup l =>
  simp only [Fw, Prod.mk.injEq] at h
  obtain ⟨_, _, rfl⟩ := h
  exact Nat.le_refl _
theorem Rl : ∀ {bs : List BT} {tvs : List TV} {id n : Nat} {obs : List (Nat × Option Ob)}, Gn id bs = (tvs, obs, n) → id ≤ n := by
 intro bs
 induction bs with
 | nil => intro tvs id n obs h; simp only [Gn, Prod.mk.injEq] at h; obtain ⟨_, _, rfl⟩ := h; exact Nat.le_refl _
 | cons b bs ih =>
  intro tvs id n obs h
  simp only [Gn] at h
  generalize hb1 : Fw id b = r at h
  obtain ⟨v, obs1, n1⟩ := r
  simp only at h
  generalize hb2 : Gn n1 bs = r at h
  obtain ⟨vs, obs2, n2⟩ := r
  simp only [Prod.mk.injEq] at h
  obtain ⟨_, _, rfl⟩ := h
  have := M1 hb1
  have := ih hb2
  omega
theorem Yb : ∀ {bs : List BT} {us : List Value} {pls : List Pl} {id n : Nat} {tvs : List TV} {obs : List (Nat × Option Ob)} {U : Nat → Prop} {ob : List (Nat × Ob)} {E : Env}, Gb P W Z bs us pls → Gn id bs = (tvs, obs, n) → Rel P W0 M U ⟨st.tm, ob, st.base, st.nt⟩ E Z a W → (∀ j, id ≤ j → j < n → ¬ U j) → May W0 M Z ob E pls → (pls.filterMap Pl.blk).Nodup →
  ∃ E2, F8 P W0 M st a W Z ob U E id n obs pls E2 ∧ Aq (D0 P W Z (fun j => U j ∨ (id ≤ j ∧ j < n)) E2 (Am ob obs)) tvs us := by
 intro bs
 induction bs with
 | nil =>
  intro us pls id n tvs obs U ob E h hb R hU hm hnd
  cases h
  simp only [Gn, Prod.mk.injEq] at hb
  obtain ⟨rfl, rfl, rfl⟩ := hb
  exact ⟨E, ⟨Nat.le_refl _, fun j hj => by simp at hj, R.moreU (fun _ h => .inl h), fun _ _ => ⟨rfl, rfl, rfl⟩, rfl, fun _ _ => rfl, fun j q g h1 h2 => by omega⟩, .nil⟩
 | cons b bs ih =>
  intro us pls id n tvs obs U ob E h hb R hU hm hnd
  cases h with
  | cons h1 h2 =>
   simp only [Gn] at hb
   generalize hb1 : Fw id b = r at hb
   obtain ⟨v, obs1, n1⟩ := r
   simp only at hb
   generalize hb2 : Gn n1 bs = r at hb
   obtain ⟨vs, obs2, n2⟩ := r
   simp only [Prod.mk.injEq] at hb
   obtain ⟨rfl, rfl, rfl⟩ := hb
   have l1 := M1 hb1
   have l2 := Rl hb2
   rw [List.filterMap_append] at hnd
   obtain ⟨nd1, nd2, _⟩ := List.nodup_append.1 hnd
   have hU1 : ∀ j, id ≤ j → j < n1 → ¬ U j := fun j h3 h4 => hU j h3 (by omega)
   obtain ⟨E2, B, hv⟩ := Oq h1 hb1 R hU1 hm.left nd1
   have hU2 : ∀ j, n1 ≤ j → j < n2 → ¬ (U j ∨ (id ≤ j ∧ j < n1)) := fun j h3 h4 h5 => by
    rcases h5 with h5 | h5
    ·exact hU j (by omega) h4 h5
    ·omega
   obtain ⟨E3, B2, hvs⟩ := ih h2 hb2 B.rel hU2 (B.may hm.right hnd) nd2
   have hu : ∀ j, ((U j ∨ (id ≤ j ∧ j < n1)) ∨ (n1 ≤ j ∧ j < n2)) → (U j ∨ (id ≤ j ∧ j < n2)) := fun j hj => by
    rcases hj with (h | h) | h
    ·exact .inl h
    ·exact .inr (by omega)
    ·exact .inr (by omega)
   have Ku : Eh W W Z Z (fun j => (U j ∨ (id ≤ j ∧ j < n1)) ∨ (n1 ≤ j ∧ j < n2)) (fun j => U j ∨ (id ≤ j ∧ j < n2)) E3 E3 (Am (Am ob obs1) obs2) (Am ob (obs1 ++ obs2)) := ⟨fun _ h => h, hu, fun _ _ => rfl, fun _ _ _ _ => ⟨rfl, rfl, rfl⟩, fun j q _ hj => ⟨q, by rw [Hl] at hj; exact hj, D9.refl _⟩⟩
   exact ⟨E3, B.trans B2, .cons ((hv.move (B2.keeps hU2)).move Ku) (hvs.imp fun _ _ _ h => h.move Ku)⟩
theorem Aq.tup {tvs : List TV} {us : Array Value} (h : Aq (D0 P W Z U E ob) tvs us.toList) : D0 P W Z U E ob (.tup tvs) (.tuple us) := by
 refine .tup (by have := h.length; simpa using this) fun i t u ht hu => ?_
 obtain ⟨y, hy, hr⟩ := h.get i t ht
 rw [Array.getElem?_toList] at hy
 rw [hu] at hy
 cases hy
 exact hr
theorem Ya {b : BT} {v : Value} (h : Hr P W Z b v pls) (hb : J5 id b = (tv, obs, n)) (R : Rel P W0 M U ⟨st.tm, ob, st.base, st.nt⟩ E Z a W) (hU : ∀ j, id ≤ j → j < n → ¬ U j) (hm : May W0 M Z ob E pls) (hnd : (pls.filterMap Pl.blk).Nodup) :
  ∃ E2, F8 P W0 M st a W Z ob U E id n obs pls E2 ∧ D0 P W Z (fun j => U j ∨ (id ≤ j ∧ j < n)) E2 (Am ob obs) tv v := by
 cases h with
 | of h =>
  cases h with
  | one h => exact Oq (.one h) hb R hU hm hnd
  | agg h => exact Oq (.agg h) hb R hU hm hnd
 | tup h =>
  simp only [J5] at hb
  generalize hbc : Gn id _ = r at hb
  obtain ⟨vs, obs', n'⟩ := r
  simp only [Prod.mk.injEq] at hb
  obtain ⟨rfl, rfl, rfl⟩ := hb
  obtain ⟨E2, B, hv⟩ := Yb h hbc R hU hm hnd
  exact ⟨E2, B, hv.tup⟩
theorem Ahl {ob ob' : List (Nat × Ob)} (h : ∀ k, Aa ob k = Aa ob' k) (i : Nat) (x : Ob) (k : Nat) : Aa (put ob i x) k = Aa (put ob' i x) k := by
 rw [D8, D8, h]
theorem T8 : ∀ {obs : List (Nat × Option Ob)} {ob ob' : List (Nat × Ob)}, (∀ k, Aa ob k = Aa ob' k) → ∀ k, Aa (Am ob obs) k = Aa (Am ob' obs) k := by
 intro obs
 induction obs with
 | nil => intro ob ob' h k; exact h k
 | cons p obs ih =>
  intro ob ob' h k
  obtain ⟨i, x⟩ := p
  cases x with
  | none => exact ih (fun k => by rw [Gr, Gr, h]) k
  | some x => exact ih (fun k => by rw [D8, D8, h]) k
theorem V1 : ∀ {obs : List (Nat × Option Ob)} {ob : List (Nat × Ob)} {i : Nat} {x : Ob}, i ∉ obs.map (·.1) → ∀ k, Aa (Am (put ob i x) obs) k = Aa (put (Am ob obs) i x) k := by
 intro obs
 induction obs with
 | nil => intro ob i x _ k; rfl
 | cons p obs ih =>
  intro ob i x hi k
  obtain ⟨j, y⟩ := p
  simp only [List.map_cons, List.mem_cons, not_or] at hi
  obtain ⟨hij, hi⟩ := hi
  cases y with
  | none =>
   show Aa (Am (Vm.del (put ob i x) j) obs) k = Aa (put (Am (Vm.del ob j) obs) i x) k
   rw [← ih (ob := Vm.del ob j) hi k]
   refine T8 (fun k => ?_) k
   rw [Gr, D8, D8, Gr]
   by_cases h1 : k = j
   ·subst h1
    rw [if_pos rfl, if_neg (fun e => hij e.symm), if_pos rfl]
   ·rw [if_neg h1, if_neg h1]
  | some y =>
   show Aa (Am (put (put ob i x) j y) obs) k = Aa (put (Am (put ob j y) obs) i x) k
   rw [← ih (ob := put ob j y) hi k]
   refine T8 (fun k => ?_) k
   rw [D8, D8, D8, D8]
   by_cases h1 : k = j
   ·subst h1
    rw [if_pos rfl, if_neg (fun e => hij e.symm), if_pos rfl]
   ·rw [if_neg h1, if_neg h1]
theorem Eh.trans {W1 W2 W3 : World} {Z1 Z2 Z3 : Addr → Prop} {U1 U2 U3 : Nat → Prop} {E1 E2 E3 : Env} {o1 o2 o3 : List (Nat × Ob)} (K : Eh W1 W2 Z1 Z2 U1 U2 E1 E2 o1 o2) (K2 : Eh W2 W3 Z2 Z3 U2 U3 E2 E3 o2 o3) : Eh W1 W3 Z1 Z3 U1 U3 E1 E3 o1 o3 := by
 refine ⟨fun k h => K2.z k (K.z k h), fun k h => K2.u k (K.u k h), fun k h => (K2.w k (K.z k h)).trans (K.w k h), fun i o' hi h => ?_, fun i o' hi h => ?_⟩
 ·obtain ⟨o2', h2, s2⟩ := K2.o i o' (K.u i hi) h
  obtain ⟨e1, e2, e3⟩ := K2.e i o' (K.u i hi) h
  obtain ⟨e4, e5, e6⟩ := K.e i o2' hi h2
  exact ⟨e1.trans e4, e2.trans e5, e3.trans e6⟩
 ·obtain ⟨o2', h2, s2⟩ := K2.o i o' (K.u i hi) h
  obtain ⟨o1', h1, s1⟩ := K.o i o2' hi h2
  refine ⟨o1', h1, ?_⟩
  cases o1' <;> cases o2' <;> cases o' <;> simp_all [D9]
theorem Yc {st0 : St} : ∀ {is : List Nat} {ls : List (List BC)} {tgs : List (TypeId × Nat)} {plr : List Pl} {id m : Nat} {obs : List (Nat × Option Ob)} {U : Nat → Prop} {ob : List (Nat × Ob)} {E : Env}, F9 P W Z ls tgs plr → Ez st0 id is ls = some (obs, m) →
  Aq (fun i tg => E.box i = tg.2 ∧ (∃ cs, Aa st0.ob i = some (.box tg.1 cs)) ∧ ∃ cs, Aa ob i = some (.box tg.1 cs)) is tgs → is.Nodup → Rel P W0 M U ⟨st.tm, ob, st.base, st.nt⟩ E Z a W → (∀ j, id ≤ j → j < m → ¬ U j) → May W0 M Z ob E plr → (plr.filterMap Pl.blk).Nodup →
  id ≤ m ∧ ∃ E2, Rel P W0 M (fun j => U j ∨ (id ≤ j ∧ j < m)) ⟨st.tm, Am ob obs, st.base, st.nt⟩ E2 Z a W ∧ Eh W W Z Z U (fun j => U j ∨ (id ≤ j ∧ j < m)) E E2 ob (Am ob obs) ∧ E2.box = E.box := by
 intro is
 induction is with
 | nil =>
  intro ls tgs plr id m obs U ob E h hb hx hn R hU hm hnd
  cases hx
  cases h
  simp only [Ez, Option.some.injEq, Prod.mk.injEq] at hb
  obtain ⟨rfl, rfl⟩ := hb
  exact ⟨Nat.le_refl _, E, R.moreU (fun _ h => .inl h), ⟨fun _ h => h, fun _ h => .inl h, fun _ _ => rfl, fun _ _ _ _ => ⟨rfl, rfl, rfl⟩, fun j q _ h => ⟨q, h, D9.refl _⟩⟩, rfl⟩
 | cons i is ih =>
  intro ls tgs plr id m obs U ob E h hb hx hn R hU hm hnd
  cases h with
  | nil => cases hx
  | @cons bs t g cur pl ls' gs' pls' hg hbs hrest =>
   cases hx with
   | cons hx1 hx2 =>
    obtain ⟨hx1, ⟨cs0, hx3⟩, ⟨cs, hx4⟩⟩ := hx1
    simp only [Ez] at hb
    rw [hx3] at hb
    simp only at hb
    generalize hbc : Ei id bs = r at hb
    obtain ⟨vs, obs1, n1⟩ := r
    simp only at hb
    split at hb
    ·rename_i r m' hbr
     cases hb
     obtain ⟨hni, hn'⟩ := List.nodup_cons.1 hn
     rw [List.filterMap_append] at hnd
     obtain ⟨nd1, nd2, _⟩ := List.nodup_append.1 hnd
     have l1 := Im hbc
     have l2 : n1 ≤ m := by
      have key : ∀ {is : List Nat} {ls : List (List BC)} {id m : Nat} {obs : List (Nat × Option Ob)}, Ez st0 id is ls = some (obs, m) → id ≤ m := by
       intro is
       induction is with
       | nil =>
        intro ls id m obs h
        cases ls with
        | nil => simp only [Ez, Option.some.injEq, Prod.mk.injEq] at h; omega
        | cons _ _ => simp [Ez] at h
       | cons i is ih =>
        intro ls id m obs h
        cases ls with
        | nil => simp [Ez] at h
        | cons l ls =>
         simp only [Ez] at h
         split at h
         ·generalize hb : Ei id l = r at h
          obtain ⟨vs, obs, n⟩ := r
          simp only at h
          split at h
          ·rename_i hr
           cases h
           have := Im hb
           have := ih hr
           omega
          ·cases h
         ·cases h
      exact key hbr
     have hU1 : ∀ j, id ≤ j → j < n1 → ¬ U j := fun j h3 h4 => hU j h3 (by omega)
     obtain ⟨E2, B, hv⟩ := J6 hbs hbc R hU1 hm.left nd1
     have hUi : U i := R.ids i _ hx4
     have hir : i < id ∨ n1 ≤ i := by
      by_cases hj : id ≤ i ∧ i < n1
      ·exact absurd hUi (hU1 i hj.1 hj.2)
      ·omega
     have hli : Aa (Am ob obs1) i = some (.box t cs) := by rw [B.other i hir]; exact hx4
     have hEi : E2.box i = g := by rw [B.box]; exact hx1
     have R2 := B.rel.retell (st := ⟨st.tm, Am ob obs1, st.base, st.nt⟩) hli (by rw [hEi]; exact hg) hv
     have hik : i ∉ obs1.map (·.1) := fun hk => by
      have := B.keys i hk
      omega
     have hlk := V1 (ob := ob) (x := .box t vs) hik
     have R3 := R2.congr (st := st) hlk
     have K1 := B.keeps hU1
     have K2 : Eh W W Z Z (fun j => U j ∨ (id ≤ j ∧ j < n1)) (fun j => U j ∨ (id ≤ j ∧ j < n1)) E2 E2 (Am ob obs1) (Am (put ob i (.box t vs)) obs1) := by
      refine ⟨fun _ h => h, fun _ h => h, fun _ _ => rfl, fun _ _ _ _ => ⟨rfl, rfl, rfl⟩, fun j p _ hj => ?_⟩
      rw [hlk j] at hj
      rcases Fs hj with ⟨rfl, rfl⟩ | ⟨_, hj⟩
      ·exact ⟨_, hli, trivial⟩
      ·exact ⟨p, hj, D9.refl p⟩
     have hU2 : ∀ j, n1 ≤ j → j < m → ¬ (U j ∨ (id ≤ j ∧ j < n1)) := fun j h3 h4 h5 => by
      rcases h5 with h5 | h5
      ·exact hU j (by omega) h4 h5
      ·omega
     have hmay : May W0 M Z (Am (put ob i (.box t vs)) obs1) E2 pls' := by
      intro p g' hp hg'
      obtain ⟨m1, m2, m3⟩ := B.may hm.right hnd p g' hp hg'
      refine ⟨m1, m2, fun j q hj hq => ?_⟩
      rw [hlk j] at hj
      rcases Fs hj with ⟨rfl, rfl⟩ | ⟨_, hj⟩
      ·exact m3 j _ hli hq
      ·exact m3 j q hj hq
     have hx' : Aq (fun y tg => E2.box y = tg.2 ∧ (∃ cs, Aa st0.ob y = some (.box tg.1 cs)) ∧ ∃ cs, Aa (Am (put ob i (.box t vs)) obs1) y = some (.box tg.1 cs)) is gs' := by
      refine hx2.imp fun i' tg hmem h => ?_
      obtain ⟨h3, h4, cs', h5⟩ := h
      refine ⟨by rw [B.box]; exact h3, h4, cs', ?_⟩
      have hne : i' ≠ i := fun e => hni (e ▸ hmem)
      have hir' : i' < id ∨ n1 ≤ i' := by
       by_cases hj : id ≤ i' ∧ i' < n1
       ·exact absurd (R.ids i' _ h5) (hU1 i' hj.1 hj.2)
       ·omega
      rw [hlk i', D8, if_neg hne, B.other i' hir']
      exact h5
     obtain ⟨l3, E3, R4, K4, e4⟩ := ih hrest hbr hx' hn' R3 hU2 hmay nd2
     have e5 : Am ob ((i, some (.box t vs)) :: obs1 ++ r) = Am (Am (put ob i (.box t vs)) obs1) r := by
      rw [List.cons_append]
      exact Hl _ _ _
     have hu : ∀ j, ((U j ∨ (id ≤ j ∧ j < n1)) ∨ (n1 ≤ j ∧ j < m)) → (U j ∨ (id ≤ j ∧ j < m)) := fun j hj => by
      rcases hj with (h | h) | h
      ·exact .inl h
      ·exact .inr (by omega)
      ·exact .inr (by omega)
     have Ku : Eh W W Z Z (fun j => (U j ∨ (id ≤ j ∧ j < n1)) ∨ (n1 ≤ j ∧ j < m)) (fun j => U j ∨ (id ≤ j ∧ j < m)) E3 E3 (Am (Am (put ob i (.box t vs)) obs1) r) (Am (Am (put ob i (.box t vs)) obs1) r) := ⟨fun _ h => h, hu, fun _ _ => rfl, fun _ _ _ _ => ⟨rfl, rfl, rfl⟩, fun j q _ hj => ⟨q, hj, D9.refl _⟩⟩
     rw [e5]
     exact ⟨by omega, E3, R4.moreU hu, ((K1.trans K2).trans K4).trans Ku, e4.trans B.box⟩
    ·cases hb
end Go.Vm
namespace Go.Vm
open Go
variable {P : Program} {W0 W W' : World} {M U U' : Nat → Prop} {st : St} {E E' : Env} {Z Z' : Addr → Prop} {a : Act} {ob ob' : List (Nat × Ob)} {o : Oper} {u : Up} {tv : TV} {id : Nat}
theorem Ae.any {x : C} {v : Value} (h : Ae P W Z x v) (hx : ∀ e l, x ≠ .row e l) : Ae P W Z' x v := by
 cases h with
 | int k n => exact .int k n
 | bool b => exact .bool b
 | str s => exact .str s
 | nil e => exact .nil e
 | fn g => exact .fn g
 | fn0 => exact .fn0
 | row e l ks A c vs hk hc hm ht hs hA hr => exact absurd rfl (hx e l)
theorem Em.any {e : TypeId} {rows : List (List C)} {pl : Option (Nat × Nat)} {cap : Nat} {ks : List Kn} (h : Em P W Z e rows pl cap) (hk : Dy P e = some ks) (hr : ks.any Kn.isRow = false) : Em P W Z' e rows pl cap := by
 obtain ⟨h1, h2, ks', h3, h4, h5, h6⟩ := h
 rw [hk] at h3
 cases h3
 refine ⟨h1, h2, ks, hk, h4, h5, fun hc => ?_⟩
 obtain ⟨g, off, cur, h7, h8, h9, h10⟩ := h6 hc
 refine ⟨g, off, cur, h7, h8, h9, fun j r o x hj ho => ?_⟩
 obtain ⟨u, h11, h12⟩ := h10 j r o x hj ho
 refine ⟨u, h11, h12.any fun e' l' hx => ?_⟩
 have hm : x.kind ∈ ks := by
  rw [← h5 r (List.mem_of_getElem? hj)]
  exact List.mem_map.2 ⟨x, List.mem_of_getElem? ho, rfl⟩
 have := List.any_eq_false.1 hr _ hm
 rw [hx] at this
 exact this rfl
theorem BCs.any {l : List BC} {us : List Value} {pls : List Pl} (h : BCs P W Z l us pls) (hr : l.any (BC.isRow P) = false) : BCs P W Z' l us pls := by
 induction h with
 | nil => exact .nil
 | @d x v l us pls h1 _ ih =>
  simp only [List.any_cons, Bool.or_eq_false_iff] at hr
  exact .d (h1.any fun e l hx => by rw [hx] at hr; exact absurd hr.1 (by simp [BC.isRow])) (ih hr.2)
 | own h1 h2 _ ih =>
  simp only [List.any_cons, Bool.or_eq_false_iff] at hr
  refine .own ?_ h2 (ih hr.2)
  obtain ⟨_, _, ks, hk, _⟩ := id h1
  have h3 := hr.1
  simp only [BC.isRow, hk] at h3
  exact h1.any hk h3
theorem Gj.any {b : BT} {v : Value} {pls : List Pl} (h : Gj P W Z b v pls) (hr : b.hasRow P = false) : Gj P W Z' b v pls := by
 cases h with
 | one h => exact .one (h.any (by simpa [BT.hasRow] using hr))
 | agg h => exact .agg (h.any (by simpa [BT.hasRow] using hr))
theorem Gb.any {l : List BT} {us : List Value} {pls : List Pl} (h : Gb P W Z l us pls) (hr : BT.hasRows P l = false) : Gb P W Z' l us pls := by
 induction h with
 | nil => exact .nil
 | cons h1 _ ih =>
  simp only [BT.hasRows, Bool.or_eq_false_iff] at hr
  exact .cons (h1.any hr.1) (ih hr.2)
theorem Hr.any {b : BT} {v : Value} {pls : List Pl} (h : Hr P W Z b v pls) (hr : b.hasRow P = false) : Hr P W Z' b v pls := by
 cases h with
 | of h => exact .of (h.any hr)
 | tup h => exact .tup (h.any (by simpa [BT.hasRow] using hr))
theorem F9.any {l : List (List BC)} {gs : List (TypeId × Nat)} {pls : List Pl} (h : F9 P W Z l gs pls) (hr : l.any (fun l => l.any (BC.isRow P)) = false) : F9 P W Z' l gs pls := by
 induction h with
 | nil => exact .nil
 | cons h1 h2 _ ih =>
  simp only [List.any_cons, Bool.or_eq_false_iff] at hr
  exact .cons h1 (h2.any hr.1) (ih hr.2)
theorem Q7 {v : SV} {b : BC} {m n : List Nat} (h : Fm P st v = some (b, m, n)) : (∀ i, i ∈ m → ∃ e rows, Aa st.ob i = some (.arr e false rows)) := by
 cases v with
 | c x =>
  cases x with
  | nil e =>
   simp only [Fm] at h
   split at h
   ·cases h; intro i hi; cases hi
   ·cases h
  | _ => cases h; intro i hi; cases hi
 | arr i =>
  simp only [Fm] at h
  split at h
  ·rename_i e rows hl
   cases h
   intro j hj
   rw [List.mem_singleton.1 hj]
   exact ⟨e, rows, hl⟩
  ·cases h; intro i hi; cases hi
  ·cases h
 | sub i lo k =>
  simp only [Fm] at h
  split at h
  ·cases h; intro i hi; cases hi
  ·cases h
 | ptr i off => cases h
 | ept i r off => cases h
 | rop e l off => cases h
theorem Xu : ∀ {l : List SV} {bs : List BC} {m n : List Nat}, Ht P st l = some (bs, m, n) → (∀ i, i ∈ m → ∃ e rows, Aa st.ob i = some (.arr e false rows)) := by
 intro l
 induction l with
 | nil => intro bs m n h; cases h; intro i hi; cases hi
 | cons v l ih =>
  intro bs m n h
  simp only [Ht] at h
  split at h
  ·rename_i hv
   split at h
   ·rename_i hvs
    cases h
    intro i hi
    rcases List.mem_append.1 hi with hi | hi
    ·exact Q7 hv i hi
    ·exact ih hvs i hi
   ·cases h
  ·cases h
theorem Ll {v : TV} {A : D3} (h : En P st v = some A) : ∀ i, i ∈ A.moved → ∃ e rows, Aa st.ob i = some (.arr e false rows) := by
 unfold En at h
 split at h
 ·split at h
  ·split at h
   ·rename_i hcs
    cases h
    exact Xu hcs
   ·cases h
  ·cases h
 ·cases h; intro i hi; cases hi
 ·split at h
  ·cases h; intro i hi; cases hi
  ·cases h
 ·split at h
  ·cases h; intro i hi; cases hi
  ·cases h
 ·cases h
 ·cases h; intro i hi; cases hi
 ·split at h
  ·split at h
   ·split at h
    ·cases h; intro i hi; cases hi
    ·cases h
   ·cases h
  ·cases h
 ·cases h; intro i hi; cases hi
 ·cases h
theorem Ra {v : SV} {A : D3} (h : Gv P st v = some A) : ∀ i, i ∈ A.moved → ∃ e rows, Aa st.ob i = some (.arr e false rows) := by
 unfold Gv at h
 split at h
 ·rename_i hc
  cases h
  exact Q7 hc
 ·exact Ll h
theorem Xy {f : FuncId} {j : Nat} {v : TV} {A : D3} (h : Il P st f j v = some A) : ∀ i, i ∈ A.moved → ∃ e rows, Aa st.ob i = some (.arr e false rows) := by
 unfold Il at h
 split at h
 ·split at h
  ·exact Ra h
  ·exact Ll h
 ·split at h
  ·exact Ra h
  ·exact Ll h
 ·exact Ll h
theorem Rd {f : FuncId} : ∀ {xs : List Operand} {ts : List TypeId} {A : D3} {j : Nat}, Ge P st f j xs ts = some A → ∀ i, i ∈ A.moved → ∃ e rows, Aa st.ob i = some (.arr e false rows) := by
 intro xs
 induction xs with
 | nil => intro ts A j h; simp only [Ge, Option.some.injEq] at h; subst h; intro i hi; cases hi
 | cons x xs ih =>
  intro ts A j h
  simp only [Ge] at h
  split at h
  ·split at h
   ·rename_i hA
    split at h
    ·rename_i hA2
     cases h
     intro i hi
     rcases List.mem_append.1 hi with hi | hi
     ·exact Xy hA i hi
     ·exact ih hA2 i hi
    ·cases h
   ·cases h
  ·cases h
theorem Ua : ∀ {l : List Nat} {ob : List (Nat × Ob)} (k : Nat), Aa (Am ob (l.map fun i => (i, none))) k = if k ∈ l then none else Aa ob k := by
 intro l
 induction l with
 | nil => intro ob k; simp [Am]
 | cons i l ih =>
  intro ob k
  show Aa (Am (Vm.del ob i) (l.map fun i => (i, none))) k = _
  rw [ih, Gr]
  by_cases h1 : k ∈ l
  ·rw [if_pos h1, if_pos (List.mem_cons_of_mem _ h1)]
  ·rw [if_neg h1]
   by_cases h2 : k = i
   ·rw [if_pos h2, if_pos (by rw [h2]; exact List.mem_cons_self)]
   ·rw [if_neg h2, if_neg (fun h => by rcases List.mem_cons.1 h with h | h; exact h2 h; exact h1 h)]
theorem Abr {f : Nat → Ob} : ∀ {l : List Nat} {ob : List (Nat × Ob)} (k : Nat), Aa (Am ob (l.map fun i => (i, some (f i)))) k = if k ∈ l then some (f k) else Aa ob k := by
 intro l
 induction l with
 | nil => intro ob k; simp [Am]
 | cons i l ih =>
  intro ob k
  show Aa (Am (put ob i (f i)) (l.map fun i => (i, some (f i)))) k = _
  rw [ih, D8]
  by_cases h1 : k ∈ l
  ·rw [if_pos h1, if_pos (List.mem_cons_of_mem _ h1)]
  ·rw [if_neg h1]
   by_cases h2 : k = i
   ·subst h2
    rw [if_pos rfl, if_pos List.mem_cons_self]
   ·rw [if_neg h2, if_neg (fun h => by rcases List.mem_cons.1 h with h | h; exact h2 h; exact h1 h)]
theorem Jm : ∀ {obs : List (Nat × Option Ob)} {ob ob' : List (Nat × Ob)} {k : Nat}, (Aa ob k = Aa ob' k ∨ k ∈ obs.map (·.1)) → Aa (Am ob obs) k = Aa (Am ob' obs) k := by
 intro obs
 induction obs with
 | nil =>
  intro ob ob' k h
  rcases h with h | h
  ·exact h
  ·cases h
 | cons p obs ih =>
  intro ob ob' k h
  obtain ⟨i, x⟩ := p
  cases x with
  | none =>
   refine ih ?_
   rw [Gr, Gr]
   by_cases hk : k = i
   ·left; rw [if_pos hk, if_pos hk]
   ·rcases h with h | h
    ·left; rw [if_neg hk, if_neg hk, h]
    ·right
     rcases List.mem_cons.1 h with h | h
     ·exact absurd h hk
     ·exact h
  | some x =>
   refine ih ?_
   rw [D8, D8]
   by_cases hk : k = i
   ·left; rw [if_pos hk, if_pos hk]
   ·rcases h with h | h
    ·left; rw [if_neg hk, if_neg hk, h]
    ·right
     rcases List.mem_cons.1 h with h | h
     ·exact absurd h hk
     ·exact h
theorem X7 : ∀ {is : List Nat} {ls : List (List BC)} {id m : Nat} {obs : List (Nat × Option Ob)}, Ez st id is ls = some (obs, m) → id ≤ m ∧ ∀ i, i ∈ is → i ∈ obs.map (·.1) := by
 intro is
 induction is with
 | nil =>
  intro ls id m obs h
  cases ls with
  | nil => simp only [Ez, Option.some.injEq, Prod.mk.injEq] at h; exact ⟨by omega, fun i hi => by cases hi⟩
  | cons _ _ => simp [Ez] at h
 | cons i is ih =>
  intro ls id m obs h
  cases ls with
  | nil => simp [Ez] at h
  | cons l ls =>
   simp only [Ez] at h
   split at h
   ·generalize hb : Ei id l = r at h
    obtain ⟨vs, obs, n⟩ := r
    simp only at h
    split at h
    ·rename_i hr
     cases h
     have h1 := Im hb
     obtain ⟨h2, h3⟩ := ih hr
     refine ⟨by omega, fun j hj => ?_⟩
     rcases List.mem_cons.1 hj with rfl | hj
     ·simp
     ·have := h3 j hj
      rw [List.cons_append, List.map_cons, List.map_append]
      exact List.mem_cons_of_mem _ (List.mem_append_right _ this)
    ·cases h
   ·cases h
theorem X6 {b : BT} {n : Nat} {obs : List (Nat × Option Ob)} (h : J5 id b = (tv, obs, n)) : id ≤ n := by
 cases b with
 | one b => exact M1 (b := .one b) h
 | agg l => exact M1 (b := .agg l) h
 | tup l =>
  simp only [J5] at h
  generalize hbc : Gn id l = r at h
  obtain ⟨vs, obs', n'⟩ := r
  simp only [Prod.mk.injEq] at h
  obtain ⟨_, _, rfl⟩ := h
  exact Rl hbc
theorem Aej : ∀ {ls : List (List BC)} {tgs : List (TypeId × Nat)} {plr : List Pl}, F9 P W Z ls tgs plr → ∀ tg, tg ∈ tgs → ∃ cur, W.heap[tg.2]? = some (.cells cur tg.1 (0, 0)) ∧ ∀ u, u ∈ cur.toList → u.oneCell' = true := by
 intro ls tgs plr h
 induction h with
 | nil => intro tg h; cases h
 | cons h1 h2 _ ih =>
  intro tg h
  rcases List.mem_cons.1 h with rfl | h
  ·exact ⟨_, h1, h2.cells⟩
  ·exact ih tg h
theorem M4 : ∀ {l : List Nat} {tgs : List (TypeId × Nat)}, If st E l tgs → ∀ i, i ∈ l → ∃ tg, tg ∈ tgs ∧ E.box i = tg.2 ∧ ∃ cs, Aa st.ob i = some (.box tg.1 cs) := by
 intro l tgs h
 induction h with
 | nil => intro i h; cases h
 | cons h1 _ ih =>
  intro i h
  rcases List.mem_cons.1 h with rfl | h
  ·obtain ⟨h1, h2⟩ := h1
   exact ⟨_, List.mem_cons_self, h1, h2⟩
  ·obtain ⟨tg, h3, h4⟩ := ih i h
   exact ⟨tg, List.mem_cons_of_mem _ h3, h4⟩
def Lf (ob0 : List (Nat × Ob)) (mv : List Nat) (ob : List (Nat × Ob)) : Prop := ∀ k o, Aa ob k = some o → k ∉ mv ∧ ∃ o0, Aa ob0 k = some o0 ∧ D9 o0 o
theorem Lf.freeze {mv : List Nat} : ∀ {ids : List Nat} {ob : List (Nat × Ob)}, Lf st.ob mv ob → (∀ i, i ∈ ids → i ∉ mv) → Lf st.ob mv (Am ob (st.freeze ids)) := by
 intro ids
 induction ids with
 | nil => intro ob h _; exact h
 | cons i ids ih =>
  intro ob h hi
  simp only [St.freeze]
  split
  ·rename_i e f rows hl
   refine ih (ob := put ob i (.arr e true rows)) (fun k o hk => ?_) (fun j hj => hi j (List.mem_cons_of_mem _ hj))
   rcases Fs hk with ⟨rfl, rfl⟩ | ⟨_, hk⟩
   ·exact ⟨hi _ List.mem_cons_self, _, hl, rfl, rfl⟩
   ·exact h k o hk
  ·exact ih h (fun j hj => hi j (List.mem_cons_of_mem _ hj))
def Le (P : Program) (W0 : World) (M U : Nat → Prop) (id : Nat) (E : Env) (Z : Addr → Prop) (st : St) (a : Act) (W : World) (o : Oper) (u : Up) : Prop :=
 ∀ (next : Act → World → Prop) (Q : Exit → Act → World → Prop), (∀ v W' E' Z', Rel P W0 M (Gl U id) (st.up o.dst u) E' Z' (a.put o.dst v) W' → (∀ k, Z k → Z' k) → (∀ A, Z' A → Z A ∨ M A.block ∨ W0.heap.size ≤ A.block) → (∀ i, U i → E'.box i = E.box i) → next (a.put o.dst v) W') → o.wp P a W next Q
end Go.Vm
namespace Go.Vm
open Go
variable {P : Program} {W0 W W' : World} {M U U' : Nat → Prop} {st : St} {E E' : Env} {Z Z' : Addr → Prop} {a : Act} {ob ob' : List (Nat × Ob)} {o : Oper} {u : Up} {tv : TV} {id : Nat}
theorem Abo {P : Program} {st : St} {A : D3} {R : Res} (hl : He P st A R = true) : A.lent = [] ∨ (∀ i, i ∈ A.lent → (∀ t l, Aa st.ob i ≠ some (.box t l)) ∧ (∀ s p, Aa st.ob i ≠ some (.iter s p)) ∧ ∀ k e l, Aa st.ob i ≠ some (.mp k e l)) ∨ (R.r.hasRow P = false ∧ R.refs.any (fun l => l.any (BC.isRow P)) = false) := by
 unfold He at hl
 split at hl
 ·right; left
  intro i hi
  have := List.all_eq_true.1 hl i hi
  exact ⟨fun t l h => (by rw [h] at this; cases this), fun s p h => (by rw [h] at this; cases this), fun k e l h => (by rw [h] at this; cases this)⟩
 ·rename_i h2
  right; right
  rw [Bool.or_eq_false_iff] at h2
  exact h2
theorem Pm (P : Program) (st : St) (A : D3) (R : Res) : E5 P st A R = st.freeze A.lent ∨ (E5 P st A R = [] ∧ R.r.hasRow P = false ∧ R.refs.any (fun l => l.any (BC.isRow P)) = false) := by
 unfold E5
 split
 ·rename_i h
  left
  rw [h]
  rfl
 ·rename_i i l h
  split
  ·left; rw [h]
  ·rename_i h2
   right
   rw [Bool.or_eq_false_iff] at h2
   exact ⟨rfl, h2.1, h2.2⟩
theorem Abd {P : Program} {st : St} {A : D3} {R : Res} (hl : He P st A R = true) : (E5 P st A R = st.freeze A.lent ∧ ∀ i, i ∈ A.lent → (∀ t l, Aa st.ob i ≠ some (.box t l)) ∧ (∀ s p, Aa st.ob i ≠ some (.iter s p)) ∧ ∀ k e l, Aa st.ob i ≠ some (.mp k e l)) ∨ (E5 P st A R = [] ∧ R.r.hasRow P = false ∧ R.refs.any (fun l => l.any (BC.isRow P)) = false) := by
 rcases Abo hl with h | h | ⟨h1, h2⟩
 ·left
  refine ⟨?_, fun i hi => by rw [h] at hi; cases hi⟩
  unfold E5
  rw [h]
  rfl
 ·rcases Pm P st A R with hk | hk
  ·exact .inl ⟨hk, h⟩
  ·exact .inr hk
 ·unfold E5
  split
  ·rename_i hn
   left
   refine ⟨by rw [hn]; rfl, fun i hi => by rw [hn] at hi; cases hi⟩
  ·rw [h1, h2]
   exact .inr ⟨rfl, rfl, rfl⟩
theorem W9 (R : Rel P W0 M U st E Z a W) (hf : ∀ j, id ≤ j → j < id + 128 → ¬ U j) {A : D3} {Re : Res} {v : Value} {tgs : List (TypeId × Nat)} {p1 p2 : List Pl} {Zc : Addr → Prop} {Mc : Nat → Prop}
  (hnd : (A.boxes ++ A.moved).Nodup) (hap : ∀ i, i ∈ A.moved → i ∉ A.lent) (hlo : He P st A Re = true) (hmv : ∀ i, i ∈ A.moved → ∃ e rows, Aa st.ob i = some (.arr e false rows)) (hbx : If st E A.boxes tgs)
  (hM : ∀ g, Mc g ↔ ∃ i, i ∈ A.boxes ++ A.moved ∧ bk st.ob E i = some g)
  (H : Lg P W (ZR P Z E st.ob A.lent) Mc tgs Re v W' Zc p1 p2) (hu : Ii P st id A Re = some u) :
  ∃ E' Z', Rel P W0 M (Gl U id) (st.up o.dst u) E' Z' (a.put o.dst v) W' ∧ (∀ k, Z k → Z' k) ∧ (∀ A, Z' A → Z A ∨ M A.block ∨ W0.heap.size ≤ A.block) ∧ (∀ i, U i → E'.box i = E.box i) := by
 unfold Ii at hu
 generalize hba : J5 id Re.r = r at hu
 obtain ⟨tv, obs, n⟩ := r
 simp only at hu
 split at hu
 ·rename_i obs2 m hbr
  split at hu
  ·rename_i hle
   have hle := Nat.le_of_ble_eq_true hle
   cases hu
   have l1 := X6 hba
   obtain ⟨l2, hkeys⟩ := X7 hbr
   have hMc : ∀ g, Mc g → ∃ i o, i ∈ A.boxes ++ A.moved ∧ Aa st.ob i = some o ∧ Aw E i o = some g ∧ ∀ e rows, o ≠ .arr e true rows := by
    intro g hg
    obtain ⟨i, hi, hb⟩ := (hM g).1 hg
    unfold bk at hb
    split at hb
    ·rename_i o' ho
     refine ⟨i, o', hi, ho, hb, fun e rows he => ?_⟩
     subst he
     rcases List.mem_append.1 hi with hi | hi
     ·obtain ⟨tg, _, _, cs, h⟩ := M4 hbx i hi
      rw [h] at ho
      cases ho
     ·obtain ⟨e', rows', h⟩ := hmv i hi
      rw [h] at ho
      cases ho
    ·cases hb
   have hMz : ∀ g, Mc g → ∀ A, Z A → A.block ≠ g := fun g hg => by
    obtain ⟨i, o', _, h1, h2, h3⟩ := hMc g hg
    exact R.free i o' g h1 h2 h3
   have hMo : ∀ g, Mc g → M g ∨ W0.heap.size ≤ g := fun g hg => by
    obtain ⟨i, o', _, h1, h2, h3⟩ := hMc g hg
    exact R.own i o' g h1 h2
   have hzk : ∀ A, Z A → W'.cell? A = W.cell? A := fun A hA => Gp (H.frame _ (R.zlt A hA) (fun hm => hMz _ hm A hA rfl))
   let f : Nat → Ob := fun i => match Aa st.ob i with
    | some (.box t _) => match W'.heap[E.box i]? with
     | some (.cells cur _ _) => .box t (List.replicate cur.size (.arr (id + 127)))
     | _ => .box 0 []
    | _ => .box 0 []
   let ob1 := Am (Am st.ob (A.moved.map fun i => (i, none))) (A.boxes.map fun i => (i, some (f i)))
   have hob1 : ∀ k, Aa ob1 k = if k ∈ A.boxes then some (f k) else if k ∈ A.moved then none else Aa st.ob k := fun k => by
    show Aa (Am (Am st.ob (A.moved.map fun i => (i, none))) (A.boxes.map fun i => (i, some (f i)))) k = _
    rw [Abr, Ua]
   have hdis : ∀ i, i ∈ A.boxes → i ∉ A.moved := fun i h1 h2 => (List.nodup_append.1 hnd).2.2 i h1 i h2 rfl
   have hbox : ∀ i, i ∈ A.boxes → ∃ t cs cur, Aa st.ob i = some (.box t cs) ∧ W'.heap[E.box i]? = some (.cells cur t (0, 0)) ∧ (∀ u, u ∈ cur.toList → u.oneCell' = true) ∧ Aa ob1 i = some (.box t (List.replicate cur.size (.arr (id + 127)))) := by
    intro i hi
    obtain ⟨⟨t, g⟩, htg, he, cs, hl⟩ := M4 hbx i hi
    obtain ⟨cur, hc, h1⟩ := Aej H.refs _ htg
    simp only at he hl hc
    rw [← he] at hc
    refine ⟨t, cs, cur, hl, hc, h1, ?_⟩
    rw [hob1, if_pos hi]
    simp only [f, hl, hc]
   have hnoj : ¬ U (id + 127) := hf _ (by omega) (by omega)
   have R1 := R.turn (W' := W') (ob' := ob1) (bx := A.boxes) (mv := A.moved) hnoj (fun i h1 h2 => by rw [hob1, if_neg h2, if_neg h1]) (fun i hi => by rw [hob1, if_neg (fun h => hdis i h hi), if_pos hi]) hbox hzk
    (fun i o' g h1 h2 h3 h4 => H.frame g (R.lt h1 h4) (fun hm => by
     obtain ⟨i', o'', hi', h5, h6, _⟩ := hMc g hm
     have := R.inj i i' o' o'' g h1 h5 h4 h6
     subst this
     rcases List.mem_append.1 hi' with h | h
     ·exact h3 h
     ·exact h2 h))
    (fun k hk hm => H.frame k (Nat.lt_of_lt_of_le hk R.size) (fun hmc => by
     rcases hMo k hmc with h | h
     ·exact hm h
     ·omega)) H.size H.os H.tape H.output
   have hleft1 : Lf st.ob A.moved ob1 := by
    intro k o' hk
    by_cases h1 : k ∈ A.boxes
    ·obtain ⟨t, cs, cur, h2, h3, h4, h5⟩ := hbox k h1
     rw [h5] at hk
     cases hk
     exact ⟨hdis k h1, _, h2, trivial⟩
    ·rw [hob1, if_neg h1] at hk
     by_cases h2 : k ∈ A.moved
     ·rw [if_pos h2] at hk
      cases hk
     ·rw [if_neg h2] at hk
      exact ⟨h2, o', hk, D9.refl _⟩
   have hlent : ∀ i, i ∈ A.lent → i ∉ A.moved := fun i h1 h2 => hap i h2 h1
   have hleft2 : Lf st.ob A.moved (Am ob1 (E5 P st A Re)) := by
    rcases Pm P st A Re with h | ⟨h, _⟩
    ·rw [h]; exact hleft1.freeze hlent
    ·rw [h]; exact hleft1
   have hboxes2 : ∀ i t cs, Aa ob1 i = some (.box t cs) → Aa (Am ob1 (E5 P st A Re)) i = some (.box t cs) ∨ i ∉ A.boxes := by
    intro i t cs hi
    by_cases hb : i ∈ A.boxes
    ·left
     rw [← hi]
     have key : ∀ {ids : List Nat} {ob : List (Nat × Ob)}, Aa (Am ob (st.freeze ids)) i = Aa ob i := by
      intro ids
      obtain ⟨t', cs', _, h2, _⟩ := hbox i hb
      induction ids with
      | nil => intro ob; rfl
      | cons j ids ih =>
       intro ob
       simp only [St.freeze]
       split
       ·rename_i e f' rows hl
        show Aa (Am (put ob j (.arr e true rows)) (st.freeze ids)) i = _
        rw [ih, D8, if_neg (fun e => by subst e; rw [h2] at hl; cases hl)]
       ·exact ih
     rcases Pm P st A Re with h | ⟨h, _⟩
     ·rw [h]; exact key
     ·rw [h]; rfl
    ·right; exact hb
   have hno : ∀ i o' g, Aa (Am ob1 (E5 P st A Re)) i = some o' → Aw E i o' = some g → ¬ Mc g ∨ ∃ i, i ∈ A.boxes ∧ E.box i = g := by
    intro i o' g h1 h2
    obtain ⟨h3, o0, h4, h5⟩ := hleft2 i o' h1
    rw [D9.blk h5 i] at h2
    by_cases hm : Mc g
    ·right
     obtain ⟨i', o'', hi', h6, h7, _⟩ := hMc g hm
     have := R.inj i i' o0 o'' g h4 h6 h2 h7
     subst this
     rcases List.mem_append.1 hi' with h | h
     ·refine ⟨i, h, ?_⟩
      obtain ⟨t, cs, cur, h8, _⟩ := hbox i h
      rw [h8] at h4
      cases h4
      simpa [Aw] using h2
     ·exact absurd h h3
    ·exact .inl hm
   have hltW : ∀ i o' g, Aa (Am ob1 (E5 P st A Re)) i = some o' → Aw E i o' = some g → g < W.heap.size := by
    intro i o' g h1 h2
    obtain ⟨h3, o0, h4, h5⟩ := hleft2 i o' h1
    rw [D9.blk h5 i] at h2
    exact R.lt h4 h2
   have htg : tgs.map (·.2) = A.boxes.filterMap (bk st.ob E) := Ru hbx
   have hboxg : ∀ i, i ∈ A.boxes → E.box i ∈ tgs.map (·.2) := by
    intro i hi
    obtain ⟨tg, h1, h2, _⟩ := M4 hbx i hi
    exact List.mem_map.2 ⟨tg, h1, h2.symm⟩
   obtain ⟨Zn, hRn, hzz, hzn, hres, hrefs, hown⟩ : ∃ Zn, Rel P W0 M (fun i => U i ∨ i = id + 127) ⟨st.tm, Am ob1 (E5 P st A Re), st.base, st.nt⟩ E Zn a W' ∧ (∀ k, Z k → Zn k) ∧ (∀ A, Zn A → Z A ∨ M A.block ∨ W0.heap.size ≤ A.block) ∧ Hr P W' Zn Re.r v p1 ∧ F9 P W' Zn Re.refs tgs p2 ∧ (∀ g, g ∈ tgs.map (·.2) ++ (p1.filterMap Pl.blk ++ p2.filterMap Pl.blk) → ∀ A, Zn A → A.block ≠ g) := by
    rcases Abd hlo with ⟨h, hnb⟩ | ⟨h, hr1, hr2⟩
    ·rw [h]
     have hzl : ∀ k, ZR P Z E st.ob A.lent k → ZL P Z E st.ob A.lent k := fun k hk => by
      rcases hk with hk | ⟨i, hi, o', h1, h2⟩
      ·exact .inl hk
      ·cases o' with
       | box t l => exact absurd h1 ((hnb i hi).1 t l)
       | iter s p => exact absurd h1 ((hnb i hi).2.1 s p)
       | mp k e l => exact absurd h1 ((hnb i hi).2.2 k e l)
       | arr e f rows => exact .inr ⟨i, hi, e, f, rows, h1, h2⟩
     refine ⟨Zc, ?_, fun k hk => H.zz k (.inl hk), fun k hk => ?_, H.res, H.refs, fun g hg => (H.own g hg).1⟩
     ·have R2 := R1.freezeAll (ids := A.lent) (st := st) (fun i e f' rows hi hm => by
       refine ⟨f', ?_⟩
       rw [hob1, if_neg (fun hb => by
        obtain ⟨t, cs, cur, h2, _⟩ := hbox i hb
        rw [h2] at hi
        cases hi), if_neg (hlent i hm)]
       exact hi)
      refine R2.moreZ (fun k hk => H.zz k (ZL.toR k hk)) H.zlt (fun i o' g h1 h2 A h3 hg => ?_)
      subst hg
      rcases H.z A h3 with h4 | h4 | h4
      ·exact hzl _ h4
      ·rw [← h] at h1
       rcases hno i o' _ h1 h2 with h5 | ⟨i', h5, h6⟩
       ·exact absurd h4 h5
       ·exact absurd rfl ((H.own _ (List.mem_append_left _ (h6 ▸ hboxg i' h5))).1 A h3)
      ·rw [← h] at h1
       have := hltW i o' _ h1 h2
       omega
     ·rcases H.z k hk with (h4 | ⟨i, hi, o', h5, h6⟩) | h4 | h4
      ·exact .inl h4
      ·exact .inr (R.own i _ _ h5 h6.blk)
      ·exact .inr (hMo _ h4)
      ·exact .inr (.inr (Nat.le_trans R.size h4))
    ·rw [h]
     exact ⟨Z, R1, fun _ h => h, fun _ h => .inl h, H.res.any hr1, H.refs.any hr2, fun g hg A hz => (H.own g hg).1 A (H.zz A (.inl hz))⟩
   obtain ⟨nd1, nd2, nd3⟩ := List.nodup_append.1 H.nodup
   obtain ⟨nd4, nd5, nd6⟩ := List.nodup_append.1 nd2
   have hmay : May W0 M Zn (Am ob1 (E5 P st A Re)) E (p1 ++ p2) := by
    intro p g hp hg
    have hmem : g ∈ p1.filterMap Pl.blk ++ p2.filterMap Pl.blk := by
     rw [← List.filterMap_append]
     exact List.mem_filterMap.2 ⟨p, hp, hg⟩
    have hmem2 := List.mem_append_right (tgs.map (·.2)) hmem
    refine ⟨hown g hmem2, ?_, fun j q hj hq => ?_⟩
    ·rcases (H.own g hmem2).2 with h | h
     ·exact hMo g h
     ·exact .inr (Nat.le_trans R.size h)
    ·rcases (H.own g hmem2).2 with h | h
     ·rcases hno j q g hj hq with h5 | ⟨i', h5, h6⟩
      ·exact h5 h
      ·exact nd3 g (h6 ▸ hboxg i' h5) g hmem rfl
     ·have := hltW j q g hj hq
      omega
   have hU1 : ∀ j, id ≤ j → j < n → ¬ (U j ∨ j = id + 127) := fun j h1 h2 h3 => by
    rcases h3 with h3 | h3
    ·exact hf j h1 (by omega) h3
    ·omega
   obtain ⟨E2, B, hv⟩ := Ya hres hba hRn hU1 hmay.left nd4
   have hU2 : ∀ j, n ≤ j → j < m → ¬ ((U j ∨ j = id + 127) ∨ (id ≤ j ∧ j < n)) := fun j h1 h2 h3 => by
    rcases h3 with (h3 | h3) | h3
    ·exact hf j (by omega) (by omega) h3
    ·omega
    ·omega
   have hx : Aq (fun i tg => E2.box i = tg.2 ∧ (∃ cs, Aa st.ob i = some (.box tg.1 cs)) ∧ ∃ cs, Aa (Am (Am ob1 (E5 P st A Re)) obs) i = some (.box tg.1 cs)) A.boxes tgs := by
    refine Aq.imp hbx fun i tg hi h => ?_
    obtain ⟨h1, cs, h2⟩ := h
    refine ⟨by rw [B.box]; exact h1, ⟨cs, h2⟩, ?_⟩
    obtain ⟨t, cs2, cur, h3, h4, h5, h6⟩ := hbox i hi
    rw [h2] at h3
    cases h3
    refine ⟨List.replicate cur.size (.arr (id + 127)), ?_⟩
    ·have hir : i < id ∨ n ≤ i := by
      by_cases hj : id ≤ i ∧ i < n
      ·exact absurd (R.ids i _ h2) (hf i hj.1 (by omega))
      ·omega
     rw [B.other i hir]
     rcases hboxes2 i _ _ h6 with h7 | h7
     ·exact h7
     ·exact absurd hi h7
   obtain ⟨l3, E3, R4, K4, e4⟩ := Yc (st0 := st) (st := st) hrefs hbr hx (List.nodup_append.1 hnd).1 B.rel hU2 (B.may hmay.right nd2) nd5
   have hlk : ∀ k, Aa (Am st.ob ((A.moved.map fun i => (i, none)) ++ E5 P st A Re ++ obs ++ obs2)) k = Aa (Am (Am (Am ob1 (E5 P st A Re)) obs) obs2) k := by
    intro k
    rw [Hl, Hl, Hl]
    apply Jm
    by_cases hb : k ∈ A.boxes
    ·exact .inr (hkeys k hb)
    ·refine .inl (Jm (.inl (Jm (.inl ?_))))
     rw [Ua, hob1, if_neg hb]
   have R5 := R4.congr (st := st) hlk
   have hsub : ∀ j, (((U j ∨ j = id + 127) ∨ (id ≤ j ∧ j < n)) ∨ (n ≤ j ∧ j < m)) → Gl U id j := fun j hj => by
    rcases hj with ((h | h) | h) | h
    ·exact .inl h
    ·exact .inr (by omega)
    ·exact .inr (by omega)
    ·exact .inr (by omega)
   have Kc : Eh W' W' Zn Zn (fun j => ((U j ∨ j = id + 127) ∨ (id ≤ j ∧ j < n)) ∨ (n ≤ j ∧ j < m)) (Gl U id) E3 E3 (Am (Am (Am ob1 (E5 P st A Re)) obs) obs2) (Am st.ob ((A.moved.map fun i => (i, none)) ++ E5 P st A Re ++ obs ++ obs2)) :=
    ⟨fun _ h => h, hsub, fun _ _ => rfl, fun _ _ _ _ => ⟨rfl, rfl, rfl⟩, fun j q _ hj => ⟨q, by rw [← hlk]; exact hj, D9.refl _⟩⟩
   have R6 := (R5.moreU hsub).val o.dst ((hv.move K4).move Kc)
   exact ⟨E3, Zn, R6, hzz, hzn, fun i _ => by rw [e4, B.box]⟩
  ·cases hu
 ·cases hu
theorem Aal (h : D2 P W0 M U id E Z st a W o u) : Le P W0 M U id E Z st a W o u := fun next Q hn => Aam h hn
theorem Pw (R : Rel P W0 M U st E Z a W) (hf : ∀ j, id ≤ j → j < id + 128 → ¬ U j) {cl : FuncId → List Arg → Option Res} (hcall : ∀ f args Re, cl f args = some Re → Ig P f args Re) {f : FuncId} {A : D3} {vals : List Value} {tgs : List (TypeId × Nat)} {pls : List Pl}
  (ha : Ec P W (ZR P Z E st.ob A.lent) A.a vals tgs pls) (hb : If st E A.boxes tgs) (hp : pls.filterMap Pl.blk = A.moved.filterMap (bk st.ob E)) (hmv : ∀ i, i ∈ A.moved → ∃ e rows, Aa st.ob i = some (.arr e false rows))
  (hop : ∀ fn, P.funcs[f]? = some fn → (fn.name == "runtime.NumGoroutine") = false → fn.body.isNone = false → (execOp a.eval o).run P W = .ok (.enter f vals.toArray) W)
  (h : Gh some P (fun f a K => match cl f a with | some R => K R | none => none) st id f A = some u) : Le P W0 M U id E Z st a W o u := by
 unfold Gh at h
 split at h
 ·rename_i hn1 hn2
  simp only at h
  split at h
  ·rename_i Re hRe
   have hlo : He P st A Re = true := by
    cases hq : He P st A Re with
    | true => rfl
    | false => rw [hq] at h; cases h
   rw [hlo] at h
   have h := Ft h
   obtain ⟨⟨fn, cd, hfn, hname, hbody⟩, hcl⟩ := hcall f A.a Re hRe
   have hnd := Ace hn1
   have hap0 := Lj hn2
   have hap : ∀ i, i ∈ A.moved → i ∉ A.lent := fun i hi => hap0 i (List.mem_append_right _ hi)
   have hL : tgs.map (·.2) ++ pls.filterMap Pl.blk = (A.boxes ++ A.moved).filterMap (bk st.ob E) := by
    rw [List.filterMap_append, Ru hb, hp]
   intro next Q hnext
   unfold Oper.wp
   rw [hop fn hfn hname (by rw [hbody]; rfl), Oper.upon_enter]
   have hMz : ∀ i g, i ∈ A.boxes ++ A.moved → bk st.ob E i = some g → (∀ A, Z A → A.block ≠ g) ∧ ∀ j, j ∈ A.lent → ∀ o, Aa st.ob j = some o → Aw E j o ≠ some g := by
    intro i g hi hbk
    unfold bk at hbk
    split at hbk
    ·rename_i o' ho
     rcases List.mem_append.1 hi with hi | hi
     ·obtain ⟨tg, _, _, cs, h1⟩ := M4 hb i hi
      rw [h1] at ho
      cases ho
      exact ⟨R.free i _ g h1 hbk (fun e rows he => by cases he), fun j hj o2 h2 h3 => by
       have := R.inj i j _ _ g h1 h2 hbk h3
       subst this
       exact hap0 i (List.mem_append_left _ hi) hj⟩
     ·obtain ⟨e', rows', h1⟩ := hmv i hi
      rw [h1] at ho
      cases ho
      exact ⟨R.free i _ g h1 hbk (fun e rows he => by cases he), fun j hj o2 h2 h3 => by
       have := R.inj i j _ _ g h1 h2 hbk h3
       subst this
       exact hap i hi hj⟩
    ·cases hbk
   refine Calls.mono (hcl _ W (ZR P Z E st.ob A.lent) (fun g => ∃ i, i ∈ A.boxes ++ A.moved ∧ bk st.ob E i = some g) tgs pls (R.hood.on R.frame R.size (fun k ⟨i, _, hbk⟩ => by
    unfold bk at hbk
    split at hbk
    ·rename_i o' ho
     exact R.own i o' k ho hbk
    ·cases hbk)) ha (by rw [hL]; exact Rr R hnd) (fun g hg => ?_) (fun k hk => ?_)) fun e W' he => ?_
   ·rw [hL] at hg
    obtain ⟨i, hi, hbk⟩ := List.mem_filterMap.1 hg
    refine ⟨⟨i, hi, hbk⟩, fun A' hz hg => ?_⟩
    obtain ⟨h1, h2⟩ := hMz i g hi hbk
    rcases hz with hz | ⟨j, hj, o2, h3, h4⟩
    ·exact h1 A' hz hg
    ·exact h2 j hj o2 h3 (hg ▸ h4.blk)
   ·rcases hk with hk | ⟨j, hj, o2, h3, h4⟩
    ·exact R.zlt k hk
    ·exact R.lt h3 h4.blk
   ·obtain ⟨v, Zc, p1, p2, rfl, H⟩ := he
    obtain ⟨E', Z', h1, h2, h3, h4⟩ := W9 (o := o) R hf hnd hap hlo hmv hb (fun g => Iff.rfl) H h
    exact hnext v W' E' Z' h1 h2 h3 h4
  ·cases h
 ·cases h
theorem Pv (R : Rel P W0 M U st E Z a W) (hf : ∀ j, id ≤ j → j < id + 128 → ¬ U j) {cl : FuncId → List Arg → Option Res} (hcall : ∀ f args Re, cl f args = some Re → Ig P f args Re) {c : Call} {f : FuncId} (ho : o.op = .call c)
  (hop : ∀ fn, P.funcs[f]? = some fn → (fn.name == "runtime.NumGoroutine") = false → fn.body.isNone = false → (execOp a.eval o).run P W = .ok (.enter f (c.args.map a.eval)) W)
  (h : G5 some P (fun f a K => match cl f a with | some R => K R | none => none) st id f c.args.toList c.argTypes.toList = some u) : Le P W0 M U id E Z st a W o u := by
 unfold G5 at h
 split at h
 ·rename_i A hA
  obtain ⟨tgs, pls, ha, hb, hp⟩ := Rf R hA
  have hargs : (c.args.map a.eval) = (c.args.toList.map a.eval).toArray := by
   apply Array.toList_inj.1
   rw [Array.toList_map]
  exact Pw R hf hcall ha hb hp (Rd hA) (fun fn h1 h2 h3 => by rw [← hargs]; exact hop fn h1 h2 h3) h
 ·cases h
theorem Ut (R : Rel P W0 M U st E Z a W) (hf : ∀ j, id ≤ j → j < id + 128 → ¬ U j) {cl : FuncId → List Arg → Option Res} (hcall : ∀ f args Re, cl f args = some Re → Ig P f args Re) {c : Call} {f : FuncId} {fst : Bool} {tv : TV} {w : Value} (ho : o.op = .call c) (hw : D0 P W Z U E st.ob tv w)
  (hop : ∀ fn, P.funcs[f]? = some fn → (fn.name == "runtime.NumGoroutine") = false → fn.body.isNone = false → (execOp a.eval o).run P W = .ok (.enter f (match fst with | true => #[w] ++ c.args.map a.eval | false => c.args.map a.eval ++ #[w])) W)
  (h : Hf some P (fun f a K => match cl f a with | some R => K R | none => none) st id f fst tv c.args.toList c.argTypes.toList = some u) : Le P W0 M U id E Z st a W o u := by
 unfold Hf at h
 split at h
 ·rename_i B hB
  split at h
  ·rename_i A hA
   obtain ⟨g1, p1, a1, b1, c1⟩ := Lm R hw hB
   obtain ⟨g2, p2, a2, b2, c2⟩ := Rf R hA
   have hargs : (c.args.map a.eval) = (c.args.toList.map a.eval).toArray := by
    apply Array.toList_inj.1
    rw [Array.toList_map]
   have m1 := Ll hB
   have m2 := Rd hA
   split at h
   ·refine Pw R hf hcall (A := B.app A) (vals := [w] ++ c.args.toList.map a.eval) (Ec.append (a1.mono ZR.left) (a2.mono ZR.right)) (Aq.append b1 b2) (by simp [List.filterMap_append, c1, c2, D3.app]) (fun j hj => ?_) (fun fn h1 h2 h3 => ?_) h
    ·rcases List.mem_append.1 hj with hj | hj
     ·exact m1 j hj
     ·exact m2 j hj
    ·rw [hop fn h1 h2 h3, hargs]
     simp
   ·refine Pw R hf hcall (A := A.app B) (vals := c.args.toList.map a.eval ++ [w]) (Ec.append (a2.mono ZR.left) (a1.mono ZR.right)) (Aq.append b2 b1) (by simp [List.filterMap_append, c1, c2, D3.app]) (fun j hj => ?_) (fun fn h1 h2 h3 => ?_) h
    ·rcases List.mem_append.1 hj with hj | hj
     ·exact m2 j hj
     ·exact m1 j hj
    ·rw [hop fn h1 h2 h3, hargs]
     simp
  ·cases h
 ·cases h
theorem Af5 (R : Rel P W0 M U st E Z a W) (hf : ∀ j, id ≤ j → j < id + 128 → ¬ U j) {cl : FuncId → List Arg → Option Res} (hcall : ∀ f args Re, cl f args = some Re → Ig P f args Re) (h : step P cl st id o = some u) : Le P W0 M U id E Z st a W o u := by
 by_cases hx : ∃ c f, o.op = .call c ∧ c.callee = .value f
 ·obtain ⟨c, f, ho, hc⟩ := hx
  unfold step I6 at h
  rw [ho] at h
  simp only at h
  have hnum : ∀ (f : FuncId) (fn : Func) (args : Array Value), P.funcs[f]? = some fn → (fn.name == "runtime.NumGoroutine") = false → fn.body.isNone = false → (callFunc f args).run P W = .ok (.enter f args) W := fun f fn args hf hname hb => by
   have h1 : ¬ fn.name = "runtime.NumGoroutine" := by simpa using hname
   have h2 : ¬ fn.body = none := by cases hx : fn.body <;> simp_all
   simp [callFunc, hf, h1, h2]
  cases f with
  | func g =>
   simp only [In, hc] at h
   refine Pv R hf hcall ho (fun fn h1 h2 h3 => ?_) h
   have e : o.op = .call { callee := .value (.func g), args := c.args, argTypes := c.argTypes } := by
    rw [ho]
    obtain ⟨cl, xs, ts⟩ := c
    simp only at hc
    rw [hc]
   exact Conc.run_call_body e h1 h2 h3
  | tmp t =>
   simp only [In, hc] at h
   have e : o.op = .call { callee := .value (.tmp t), args := c.args, argTypes := c.argTypes } := by
    rw [ho]
    obtain ⟨cl, xs, ts⟩ := c
    simp only at hc
    rw [hc]
   split at h
   ·rename_i g hg
    have hr := (R.tm t _ hg).2
    generalize hv0 : a.tmps.getD t undef = v at hr
    have hv : a.eval (.tmp t) = v := hv0
    cases hr with
    | fn g =>
     refine Pv R hf hcall ho (fun fn h1 h2 h3 => ?_) h
     simp [execOp, e, resolve, Deferred.ofValue, invoke, hv, hnum g fn _ h1 h2 h3]
   ·rename_i g fst i off hg
    have hr := (R.tm t _ hg).2
    generalize hv0 : a.tmps.getD t undef = v at hr
    have hv : a.eval (.tmp t) = v := hv0
    cases hr with
    | fnp hw =>
     refine Ut R hf hcall ho (.one hw) (fun fn h1 h2 h3 => ?_) h
     cases fst <;> simp [execOp, e, resolve, Deferred.ofValue, invoke, hv, hnum g fn _ h1 h2 h3]
   ·rename_i g fst e0 l off hg
    have hr := (R.tm t _ hg).2
    generalize hv0 : a.tmps.getD t undef = v at hr
    have hv : a.eval (.tmp t) = v := hv0
    cases hr with
    | fnr hw =>
     refine Ut R hf hcall ho (.one hw) (fun fn h1 h2 h3 => ?_) h
     cases fst <;> simp [execOp, e, resolve, Deferred.ofValue, invoke, hv, hnum g fn _ h1 h2 h3]
   ·rename_i g hg
    have hr := (R.tm t _ hg).2
    generalize hv0 : a.tmps.getD t undef = v at hr
    have hv : a.eval (.tmp t) = v := hv0
    cases hr with
    | one hw =>
     cases (show Ae P W Z (.fn (some g)) v from hw)
     refine Pv R hf hcall ho (fun fn h1 h2 h3 => ?_) h
     simp [execOp, e, resolve, Deferred.ofValue, invoke, hv, hnum g fn _ h1 h2 h3]
   ·cases h
  | const v => simp only [In, hc] at h; cases h
  | global g => simp only [In, hc] at h; cases h
 ·exact Aal (Af3 R hf h (fun c f ho hc => hx ⟨c, f, ho, hc⟩))
end Go.Vm
