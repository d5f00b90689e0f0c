import Derived.Test.YtmbbjdkcanoklaaX11
import Derived.Test.YtmbbjdkcanoklaaX13
import Derived.Test.YtmbbjdkcanoklaaMname
import Derived.Test.YtmbbjdkcanoklaaMutf
import Derived.Test.YtmbbjdkcanoklaaX6
import Derived.Test.YtmbbjdkcanoklaaX7
import Derived.Test.YtmbbjdkcanoklaaX14
import Derived.Test.YtmbbjdkcanoklaaX17
import Derived.Test.YtmbbjdkcanoklaaX3
/- A path that is right (the document's answer to what it is): few parts, each of which stands as its kind asks. -/
set_option linter.unusedVariables false
set_option linter.unusedSimpArgs false
namespace Go.Proofs.Ytmbbjdkcanoklaa.Pa
open Go.RowKit Go.Proofs.YtmbbjdkcanoklaaW.PrintWords Go.Proofs.YtmbbjdkcanoklaaW.XConv Go.Proofs.Ytmbbjdkcanoklaa.E Go.Proofs.Ytmbbjdkcanoklaa.X Go.Proofs.Ytmbbjdkcanoklaa.Nm
open Go.Proofs.Ytmbbjdkcanoklaa.Utf (Dec refAll_ev)
abbrev Pt := S25
abbrev Ft := S51
/-- it answers in the end, with an answer of which P is true -/
def Tot {α : Type} (g : Nat → Option α) (P : α → Prop) : Prop := ∃ r, Evn g r ∧ P r
section
variable {α β : Type} {g h : Nat → Option α} {P Q : α → Prop}
theorem Tot.ret {r : α} (hp : P r) : Tot (fun _ => some r) P := ⟨r, Evn.ret r, hp⟩
theorem Tot.congr (e : ∀ k, g k = h k) (H : Tot h P) : Tot g P := by
  obtain ⟨r, h1, h2⟩ := H
  exact ⟨r, Evn.congr e h1, h2⟩
theorem Tot.succ (e : ∀ k, g (k + 1) = h k) (H : Tot h P) : Tot g P := by
  obtain ⟨r, h1, h2⟩ := H
  exact ⟨r, Evn.succ e h1, h2⟩
theorem Tot.mono (H : Tot g P) (hp : ∀ r, P r → Q r) : Tot g Q := by
  obtain ⟨r, h1, h2⟩ := H
  exact ⟨r, h1, hp r h2⟩
theorem Tot.bind {f : Nat → Option β} {F : Nat → β → Option α} {R : β → Prop} (H : Tot f R) (H2 : ∀ b, R b → Tot (fun k => F k b) P) : Tot (fun k => (f k).bind (F k)) P := by
  obtain ⟨b, h1, h2⟩ := H
  obtain ⟨r, h3, h4⟩ := H2 b h2
  exact ⟨r, Evn.bind h1 h3, h4⟩
theorem Tot.ite {p : Prop} [Decidable p] {a b : Nat → Option α} (h1 : p → Tot a P) (h2 : ¬ p → Tot b P) : Tot (fun k => if p then a k else b k) P := by
  by_cases hp : p
  · obtain ⟨r, h3, h4⟩ := h1 hp
    exact ⟨r, Evn.iteT hp h3, h4⟩
  · obtain ⟨r, h3, h4⟩ := h2 hp
    exact ⟨r, Evn.iteF hp h3, h4⟩
theorem Tot.of {r : α} (H : Evn g r) (hp : P r) : Tot g P := ⟨r, H, hp⟩
theorem Tot.get (H : Tot g P) : ∃ r, P r ∧ Evn g r := by
  obtain ⟨r, h1, h2⟩ := H
  exact ⟨r, h2, h1⟩
end
abbrev An {α : Type} (_ : α) : Prop := True
/-! ### texts -/
theorem blank_tot (c : Int) : ∃ b, orielref02_Blank.f c = some b := by
  unfold orielref02_Blank.f
  repeat' split
  all_goals exact ⟨_, rfl⟩
theorem char_tot (c : Int) : ∃ b, orielref02_Char.f c = some b := by
  unfold orielref02_Char.f
  obtain ⟨b, hb⟩ := blank_tot c
  rw [hb]
  repeat' split
  all_goals exact ⟨_, rfl⟩
theorem right04_l (l : List Int) (w : Int) (hl : l.length ≤ 1000000000) : ∀ n i, l.length - i ≤ n → i ≤ l.length → Tot (fun k => orielref04_Right.l0 k l w (i : Nat)) An := by
  intro n
  induction n with
  | zero =>
    intro i hn hi
    refine Tot.succ (fun k => by rw [orielref04_Right.l0]) ?_
    exact Tot.ite (fun h => by omega) (fun _ => Tot.ret trivial)
  | succ n ih =>
    intro i hn hi
    refine Tot.succ (fun k => by rw [orielref04_Right.l0]) ?_
    refine Tot.ite (fun h => ?_) (fun _ => Tot.ret trivial)
    refine Tot.ite (fun _ => ?_) (fun h => by omega)
    obtain ⟨b, hb⟩ := char_tot (wrap64 (rd l i))
    refine Tot.congr (fun k => by rw [hb, Option.bind_some]) ?_
    refine Tot.ite (fun _ => ?_) (fun _ => Tot.ret trivial)
    rw [w64 (by omega) (by omega)]
    exact ih (i + 1) (by omega) (by omega)
theorem right04_tot (s : ByteArray) (hz : s.size ≤ 1000000000) : Tot (fun k => orielref04_Right.f k s) An := by
  obtain ⟨rs, rest, hd⟩ := Utf.Dec.exists (bytesOf s).length (bytesOf s) (Nat.le_refl _) (bytesOf_range s)
  have hl : rs.length ≤ (rs.flatMap Utf.putL).length := by
    have hok := hd.ok
    clear hd
    induction rs with
    | nil => simp
    | cons r t ih =>
      have h1 := Utf.putL_pos (hok r List.mem_cons_self)
      have h2 := ih (fun x hx => hok x (List.mem_cons_of_mem _ hx))
      simp only [List.flatMap_cons, List.length_append, List.length_cons]
      omega
  have hs : rs.length ≤ 1000000000 := by
    have h1 := congrArg List.length hd.eq
    have h2 := size_bytesOf s
    rw [List.length_append] at h1
    omega
  refine Tot.congr (fun k => by rw [orielref04_Right.f]) ?_
  refine Tot.bind (Tot.of (refAll_ev s hz rs rest hd) (P := fun x => x.1 = rs) rfl) ?_
  rintro b rfl
  exact right04_l _ _ hs b.1.length 0 (by omega) (by omega)
theorem find05_l (s x : ByteArray) (hz : s.size ≤ 1000000000) (hx : x.size ≤ 1000000000) : ∀ n i, s.size + 1 - i ≤ n → i ≤ s.size + 1 → Tot (fun k => orielref05_Find.l0 k s x (i : Nat)) An := by
  intro n
  induction n with
  | zero =>
    intro i hn hi1
    have e : wrap64 ((i : Int) + (x.size : Int)) = (i : Int) + (x.size : Int) := w64 (by omega) (by omega)
    refine Tot.succ (fun k => by rw [orielref05_Find.l0, e]) ?_
    exact Tot.ite (fun h => by omega) (fun _ => Tot.ret trivial)
  | succ n ih =>
    intro i hn hi1
    by_cases hi : s.size < i
    · exact ih i (by omega) hi1
    have e : wrap64 ((i : Int) + (x.size : Int)) = (i : Int) + (x.size : Int) := w64 (by omega) (by omega)
    refine Tot.succ (fun k => by rw [orielref05_Find.l0, e]) ?_
    refine Tot.ite (fun h => ?_) (fun _ => Tot.ret trivial)
    refine Tot.ite (fun _ => ?_) (fun h => by omega)
    refine Tot.ite (fun _ => ?_) (fun h => by omega)
    refine Tot.ite (fun _ => Tot.ret trivial) (fun _ => ?_)
    rw [w64 (by omega) (by omega)]
    exact ih (i + 1) (by omega) (by omega)
theorem find05_tot (s x : ByteArray) (hz : s.size ≤ 1000000000) (hx : x.size ≤ 1000000000) : Tot (fun k => orielref05_Find.f k s 0 x) An := by
  refine Tot.congr (fun k => by rw [orielref05_Find.f]) ?_
  exact find05_l s x hz hx _ 0 (Nat.le_refl _) (by omega)
theorem named_tot (a b : ByteArray) (ha : a.size ≤ 1000000000) (hb : b.size ≤ 1000000000) : Tot (fun k => orielref12_named.f k a b) An := by
  refine Tot.congr (fun k => by rw [orielref12_named.f]) ?_
  refine Tot.ite (fun _ => Tot.ret trivial) (fun _ => ?_)
  refine Tot.bind (Tot.of (refPlain_ev b hb) (P := An) trivial) (fun r1 _ => ?_)
  refine Tot.ite (fun _ => ?_) (fun _ => Tot.ret trivial)
  refine Tot.bind (right04_tot b hb) (fun r2 _ => ?_)
  refine Tot.ite (fun _ => ?_) (fun _ => Tot.ret trivial)
  refine Tot.bind (right04_tot a ha) (fun r3 _ => ?_)
  refine Tot.ite (fun _ => ?_) (fun _ => Tot.ret trivial)
  refine Tot.bind (find05_tot a _ ha (by decide)) (fun r4 _ => ?_)
  refine Tot.ite (fun _ => ?_) (fun _ => Tot.ret trivial)
  refine Tot.bind (find05_tot a _ ha (by decide)) (fun r5 _ => ?_)
  exact Tot.ret trivial
end Go.Proofs.Ytmbbjdkcanoklaa.Pa

/- A path that is right: so many parts, each as its kind asks. -/
set_option linter.unusedVariables false
set_option linter.unusedSimpArgs false
namespace Go.Proofs.Ytmbbjdkcanoklaa.Pa
open Go.RowKit Go.Proofs.YtmbbjdkcanoklaaW.PrintWords Go.Proofs.YtmbbjdkcanoklaaW.XConv Go.Proofs.Ytmbbjdkcanoklaa.E Go.Proofs.Ytmbbjdkcanoklaa.X Go.Proofs.Ytmbbjdkcanoklaa.Nm
theorem rdP {l : List Pt} {i : Nat} (h : i < l.length) : rd_T25 l (i : Int) = l[i] := by
  simp [rd_T25, h]
theorem rdF {l : List Ft} {i : Nat} (h : i < l.length) : rd_T51 l (i : Int) = l[i] := by
  simp [rd_T51, h]
theorem szP1 {x y : Pt} (h : y ∈ x.f1) : SizeOf.sizeOf y < SizeOf.sizeOf x := by
  have := List.sizeOf_lt_of_mem h
  cases x
  simp at this ⊢
  omega
theorem szP2 {x : Pt} {y : Ft} (h : y ∈ x.f2) : SizeOf.sizeOf y < SizeOf.sizeOf x := by
  have := List.sizeOf_lt_of_mem h
  cases x
  simp at this ⊢
  omega
theorem szF3 {x y : Ft} (h : y ∈ x.f3) : SizeOf.sizeOf y < SizeOf.sizeOf x := by
  have := List.sizeOf_lt_of_mem h
  cases x
  simp at this ⊢
  omega
theorem szF4 {x : Ft} {y : Pt} (h : y ∈ x.f4) : SizeOf.sizeOf y < SizeOf.sizeOf x := by
  have := List.sizeOf_lt_of_mem h
  cases x
  simp at this ⊢
  omega
/-- how many parts, as deep as d -/
def cnt : Nat → Pt → Nat
  | 0, _ => 0
  | d + 1, p => 1 + (p.f1.map (cnt d)).sum
theorem drop_sum {α : Type} (f : α → Nat) {l : List α} {i : Nat} (h : i < l.length) : ((l.drop i).map f).sum = f l[i] + ((l.drop (i + 1)).map f).sum := by
  rw [List.drop_eq_getElem_cons h, List.map_cons, List.sum_cons]
def SizeP (m : Int) (x : Pt) (r : Int) : Prop := 1 ≤ r ∧ r ≤ m + 1 ∧ (r ≤ m → ∀ d, (cnt d x : Int) ≤ r)
def SizeF (m : Int) (r : Int) : Prop := 1 ≤ r ∧ r ≤ m + 1
section
variable (IP : Pt → Prop) (IF : Ft → Prop)
def GoodP (x : Pt) : Prop := ∀ m : Int, 0 ≤ m → m ≤ 1000000 → Tot (fun k => orielref12_size.f k x.f0 x.f1 x.f2 m) (SizeP m x)
def GoodF (x : Ft) : Prop := ∀ m : Int, 0 ≤ m → m ≤ 1000000 → Tot (fun k => orielref12_sizeFilter.f k x.f0 x.f1.f0 x.f1.f1 x.f2 x.f3 x.f4 m) (SizeF m)
end
theorem size_l1 (a : Int) (l : List Pt) (t : List Ft) (ht : t.length ≤ 1048576) (hg : ∀ y, y ∈ t → GoodF y) (m : Int) (hm0 : 0 ≤ m) (hm : m ≤ 1000000) :
    ∀ b i, t.length - i ≤ b → i ≤ t.length → ∀ n : Int, 0 ≤ n → n ≤ m + 1 → Tot (fun k => orielref12_size.l1 k m n (i : Nat) a l t) (fun r => n ≤ r ∧ r ≤ m + 1) := by
  intro b
  induction b with
  | zero =>
    intro i hb hi n hn0 hn
    refine Tot.succ (fun k => by rw [orielref12_size.l1]) ?_
    exact Tot.ite (fun h => by omega) (fun _ => Tot.ret ⟨Int.le_refl _, hn⟩)
  | succ b ih =>
    intro i hb hi n hn0 hn
    refine Tot.succ (fun k => by rw [orielref12_size.l1]) ?_
    refine Tot.ite (fun h => ?_) (fun _ => Tot.ret ⟨Int.le_refl _, hn⟩)
    refine Tot.ite (fun h2 => ?_) (fun _ => Tot.ret ⟨Int.le_refl _, hn⟩)
    refine Tot.ite (fun _ => ?_) (fun h => by omega)
    have hi2 : i < t.length := by omega
    rw [rdF hi2, w64 (by omega) (by omega)]
    refine Tot.bind (hg _ (List.getElem_mem hi2) (m - n) (by omega) (by omega)) ?_
    rintro r ⟨h3, h4⟩
    rw [w64 (by omega) (by omega), w64 (by omega) (by omega)]
    exact (ih (i + 1) (by omega) (by omega) (n + r) (by omega) (by omega)).mono fun r2 h5 => ⟨by omega, h5.2⟩
theorem size_l0 (a : Int) (l : List Pt) (t : List Ft) (hl : l.length ≤ 1048576) (ht : t.length ≤ 1048576) (hgp : ∀ y, y ∈ l → GoodP y) (hg : ∀ y, y ∈ t → GoodF y) (m : Int) (hm0 : 0 ≤ m) (hm : m ≤ 1000000) :
    ∀ b i, l.length - i ≤ b → i ≤ l.length → ∀ n : Int, 0 ≤ n → n ≤ m + 1 → Tot (fun k => orielref12_size.l0 k m n (i : Nat) a l t) (fun r => n ≤ r ∧ r ≤ m + 1 ∧ (r ≤ m → ∀ d, n + (((l.drop i).map (cnt d)).sum : Nat) ≤ r)) := by
  have hj : ∀ n : Int, 0 ≤ n → n ≤ m + 1 → Tot (fun k => orielref12_size.j1 k m n a l t) (fun r => n ≤ r ∧ r ≤ m + 1) := by
    intro n hn0 hn
    refine Tot.succ (fun k => by rw [orielref12_size.j1]) ?_
    exact size_l1 a l t ht hg m hm0 hm t.length 0 (by omega) (by omega) n hn0 hn
  intro b
  induction b with
  | zero =>
    intro i hb hi n hn0 hn
    refine Tot.succ (fun k => by rw [orielref12_size.l0]) ?_
    refine Tot.ite (fun h => by omega) (fun _ => (hj n hn0 hn).mono fun r h => ⟨h.1, h.2, fun _ d => ?_⟩)
    rw [List.drop_of_length_le (by omega)]
    simpa using h.1
  | succ b ih =>
    intro i hb hi n hn0 hn
    refine Tot.succ (fun k => by rw [orielref12_size.l0]) ?_
    refine Tot.ite (fun h => ?_) (fun h0 => (hj n hn0 hn).mono fun r h => ⟨h.1, h.2, fun _ d => ?_⟩)
    · refine Tot.ite (fun h2 => ?_) (fun h0 => (hj n hn0 hn).mono fun r h => ⟨h.1, h.2, fun h1 d => by omega⟩)
      refine Tot.ite (fun _ => ?_) (fun h => by omega)
      have hi2 : i < l.length := by omega
      rw [rdP hi2, w64 (by omega) (by omega)]
      refine Tot.bind (hgp _ (List.getElem_mem hi2) (m - n) (by omega) (by omega)) ?_
      rintro r ⟨h3, h4, h5⟩
      rw [w64 (by omega) (by omega), w64 (by omega) (by omega)]
      refine (ih (i + 1) (by omega) (by omega) (n + r) (by omega) (by omega)).mono fun r2 h6 => ⟨by omega, h6.2.1, fun h7 d => ?_⟩
      rw [drop_sum _ hi2]
      have h8 := h6.2.2 h7 d
      have h9 := h5 (by omega) d
      omega
    · rw [List.drop_of_length_le (by omega)]
      simpa using h.1
theorem sizeF_l1 (a : Int) (s1 s2 s3 : ByteArray) (t : List Ft) (l : List Pt) (hl : l.length ≤ 1048576) (hgp : ∀ y, y ∈ l → GoodP y) (m : Int) (hm0 : 0 ≤ m) (hm : m ≤ 1000000) :
    ∀ b i, l.length - i ≤ b → i ≤ l.length → ∀ n : Int, 0 ≤ n → n ≤ m + 1 → Tot (fun k => orielref12_sizeFilter.l1 k m n (i : Nat) a s1 s2 s3 t l) (fun r => n ≤ r ∧ r ≤ m + 1) := by
  intro b
  induction b with
  | zero =>
    intro i hb hi n hn0 hn
    refine Tot.succ (fun k => by rw [orielref12_sizeFilter.l1]) ?_
    exact Tot.ite (fun h => by omega) (fun _ => Tot.ret ⟨Int.le_refl _, hn⟩)
  | succ b ih =>
    intro i hb hi n hn0 hn
    refine Tot.succ (fun k => by rw [orielref12_sizeFilter.l1]) ?_
    refine Tot.ite (fun h => ?_) (fun _ => Tot.ret ⟨Int.le_refl _, hn⟩)
    refine Tot.ite (fun h2 => ?_) (fun _ => Tot.ret ⟨Int.le_refl _, hn⟩)
    refine Tot.ite (fun _ => ?_) (fun h => by omega)
    have hi2 : i < l.length := by omega
    rw [rdP hi2, w64 (by omega) (by omega)]
    refine Tot.bind (hgp _ (List.getElem_mem hi2) (m - n) (by omega) (by omega)) ?_
    rintro r ⟨h3, h4, _⟩
    rw [w64 (by omega) (by omega), w64 (by omega) (by omega)]
    exact (ih (i + 1) (by omega) (by omega) (n + r) (by omega) (by omega)).mono fun r2 h5 => ⟨by omega, h5.2⟩
theorem sizeF_l0 (a : Int) (s1 s2 s3 : ByteArray) (t : List Ft) (l : List Pt) (ht : t.length ≤ 1048576) (hl : l.length ≤ 1048576) (hgp : ∀ y, y ∈ l → GoodP y) (hg : ∀ y, y ∈ t → GoodF y) (m : Int) (hm0 : 0 ≤ m) (hm : m ≤ 1000000) :
    ∀ b i, t.length - i ≤ b → i ≤ t.length → ∀ n : Int, 0 ≤ n → n ≤ m + 1 → Tot (fun k => orielref12_sizeFilter.l0 k m n (i : Nat) a s1 s2 s3 t l) (fun r => n ≤ r ∧ r ≤ m + 1) := by
  have hj : ∀ n : Int, 0 ≤ n → n ≤ m + 1 → Tot (fun k => orielref12_sizeFilter.j1 k m n a s1 s2 s3 t l) (fun r => n ≤ r ∧ r ≤ m + 1) := by
    intro n hn0 hn
    refine Tot.succ (fun k => by rw [orielref12_sizeFilter.j1]) ?_
    exact sizeF_l1 a s1 s2 s3 t l hl hgp m hm0 hm l.length 0 (by omega) (by omega) n hn0 hn
  intro b
  induction b with
  | zero =>
    intro i hb hi n hn0 hn
    refine Tot.succ (fun k => by rw [orielref12_sizeFilter.l0]) ?_
    exact Tot.ite (fun h => by omega) (fun _ => hj n hn0 hn)
  | succ b ih =>
    intro i hb hi n hn0 hn
    refine Tot.succ (fun k => by rw [orielref12_sizeFilter.l0]) ?_
    refine Tot.ite (fun h => ?_) (fun _ => hj n hn0 hn)
    refine Tot.ite (fun h2 => ?_) (fun _ => hj n hn0 hn)
    refine Tot.ite (fun _ => ?_) (fun h => by omega)
    have hi2 : i < t.length := by omega
    rw [rdF hi2, w64 (by omega) (by omega)]
    refine Tot.bind (hg _ (List.getElem_mem hi2) (m - n) (by omega) (by omega)) ?_
    rintro r ⟨h3, h4⟩
    rw [w64 (by omega) (by omega), w64 (by omega) (by omega)]
    exact (ih (i + 1) (by omega) (by omega) (n + r) (by omega) (by omega)).mono fun r2 h5 => ⟨by omega, h5.2⟩
theorem size_good : ∀ n : Nat, (∀ x : Pt, SizeOf.sizeOf x < n → Fit25 x → GoodP x) ∧ (∀ x : Ft, SizeOf.sizeOf x < n → Fit51 x → GoodF x) := by
  intro n
  induction n with
  | zero => exact ⟨fun x h => absurd h (Nat.not_lt_zero _), fun x h => absurd h (Nat.not_lt_zero _)⟩
  | succ n ih =>
    refine ⟨fun x hx hf m hm0 hm => ?_, fun x hx hf m hm0 hm => ?_⟩
    · obtain ⟨_, h1, h2, h3, h4⟩ := hf.un
      refine Tot.succ (fun k => by rw [orielref12_size.f]) ?_
      refine (size_l0 x.f0 x.f1 x.f2 h1 h3 (fun y hy => ih.1 y (by have := szP1 hy; omega) (h2 y hy)) (fun y hy => ih.2 y (by have := szP2 hy; omega) (h4 y hy)) m hm0 hm x.f1.length 0 (by omega) (by omega) 1 (by omega) (by omega)).mono fun r h => ⟨h.1, h.2.1, fun h5 d => ?_⟩
      cases d with
      | zero => simp only [cnt]; omega
      | succ d =>
        have := h.2.2 h5 d
        rw [List.drop_zero] at this
        simp only [cnt]
        omega
    · obtain ⟨_, _, _, h1, h2, h3, h4⟩ := hf.un
      refine Tot.succ (fun k => by rw [orielref12_sizeFilter.f]) ?_
      exact sizeF_l0 x.f0 x.f1.f0 x.f1.f1 x.f2 x.f3 x.f4 h1 h3 (fun y hy => ih.1 y (by have := szF4 hy; omega) (h4 y hy)) (fun y hy => ih.2 y (by have := szF3 hy; omega) (h2 y hy)) m hm0 hm x.f3.length 0 (by omega) (by omega) 1 (by omega) (by omega)
end Go.Proofs.Ytmbbjdkcanoklaa.Pa

/- Right: what a path that is right looks like; every path is told. -/
set_option linter.unusedVariables false
set_option linter.unusedSimpArgs false
namespace Go.Proofs.Ytmbbjdkcanoklaa.Pa
open Go.RowKit Go.Proofs.YtmbbjdkcanoklaaW.PrintWords Go.Proofs.YtmbbjdkcanoklaaW.XConv Go.Proofs.Ytmbbjdkcanoklaa.E Go.Proofs.Ytmbbjdkcanoklaa.X Go.Proofs.Ytmbbjdkcanoklaa.Nm
/-- each part as its kind asks, as deep as d -/
def POk : Nat → Pt → Prop
  | 0, _ => False
  | d + 1, p => (1 ≤ p.f0 ∧ p.f0 ≤ 7) ∧ ((p.f0 = 4 ∨ p.f0 = 5) → 2 ≤ p.f1.length ∧ p.f1.length ≤ 64) ∧ (p.f0 = 6 → p.f1.length = 1) ∧ (p.f0 ≠ 4 → p.f0 ≠ 5 → p.f0 ≠ 6 → p.f1.length = 0) ∧ (p.f0 = 7 ↔ p.f2.length = 1) ∧ p.f2.length ≤ 1 ∧ ∀ y, y ∈ p.f1 → POk d y
theorem dec1 {d : Nat} (hd : d ≤ 1000) : wrap64 (((d + 1 : Nat) : Int) - 1) = (d : Int) := by
  rw [w64 (by omega) (by omega)]
  omega
section
variable {d : Nat} (hd : d ≤ 1000) (hp : ∀ y : Pt, Fit25 y → Tot (fun k => orielref12_path.f k y.f0 y.f1 y.f2 (d : Int)) (fun b => b = true → POk d y))
  (hf : ∀ y : Ft, Fit51 y → Tot (fun k => orielref12_filter.f k y.f0 y.f1.f0 y.f1.f1 y.f2 y.f3 y.f4 (d : Int)) An)
include hd hp hf
theorem path_l0 (a : Int) (l : List Pt) (t : List Ft) (hl : l.length ≤ 1048576) (gl : ∀ y, y ∈ l → Fit25 y) (gt : ∀ y, y ∈ t → Fit51 y) :
    ∀ b i, l.length - i ≤ b → i ≤ l.length → Tot (fun k => orielref12_path.l0 k ((d + 1 : Nat) : Int) (i : Nat) a l t) (fun b => b = true → ∀ y, y ∈ l.drop i → POk d y) := by
  have hend : ∀ i, ¬ i < l.length → Tot (fun k => if (t.length : Int) = 0 then some true else (if 0 < (t.length : Int) then ((orielref12_filter.f k ((rd_T51 t 0).f0) ((rd_T51 t 0).f1.f0) ((rd_T51 t 0).f1.f1) ((rd_T51 t 0).f2) ((rd_T51 t 0).f3) ((rd_T51 t 0).f4) (wrap64 (((d + 1 : Nat) : Int) - 1))).bind fun t263 => (some t263)) else none)) (fun b => b = true → ∀ y, y ∈ l.drop i → POk d y) := by
    intro i hi
    have hdr : ∀ b : Bool, b = true → ∀ y, y ∈ l.drop i → POk d y := by
      intro b _ y hy
      rw [List.drop_of_length_le (by omega)] at hy
      cases hy
    refine Tot.ite (fun _ => Tot.ret (hdr _)) (fun h => ?_)
    refine Tot.ite (fun h2 => ?_) (fun h => by omega)
    have h3 : 0 < t.length := by omega
    rw [show rd_T51 t 0 = t[0] from rdF h3, dec1 hd]
    exact Tot.bind (hf _ (gt _ (List.getElem_mem h3))) (fun b _ => Tot.ret (hdr b))
  intro b
  induction b with
  | zero =>
    intro i hb hi
    refine Tot.succ (fun k => by rw [orielref12_path.l0]) ?_
    exact Tot.ite (fun h => by omega) (fun h => hend i (by omega))
  | succ b ih =>
    intro i hb hi
    refine Tot.succ (fun k => by rw [orielref12_path.l0]) ?_
    refine Tot.ite (fun h => ?_) (fun h => hend i (by omega))
    refine Tot.ite (fun _ => ?_) (fun h => by omega)
    have hi2 : i < l.length := by omega
    rw [rdP hi2, dec1 hd]
    refine Tot.bind (hp _ (gl _ (List.getElem_mem hi2))) (fun r hr => ?_)
    refine Tot.ite (fun h2 => ?_) (fun _ => Tot.ret (fun h => by cases h))
    rw [w64 (by omega) (by omega)]
    refine (ih (i + 1) (by omega) (by omega)).mono fun r2 h3 h4 y hy => ?_
    rw [List.drop_eq_getElem_cons hi2] at hy
    rcases List.mem_cons.1 hy with rfl | hy
    · exact hr h2
    · exact h3 h4 y hy
theorem path_j4 (fl : Bool) (a : Int) (l : List Pt) (t : List Ft) (hl : l.length ≤ 1048576) (gl : ∀ y, y ∈ l → Fit25 y) (gt : ∀ y, y ∈ t → Fit51 y) :
    Tot (fun k => orielref12_path.j4 k ((d + 1 : Nat) : Int) fl a l t) (fun b => b = true → fl = false ∧ ∀ y, y ∈ l → POk d y) := by
  refine Tot.succ (fun k => by rw [orielref12_path.j4]) ?_
  refine Tot.ite (fun h => Tot.ret (fun h => by cases h)) (fun h => ?_)
  exact (path_l0 hd hp hf a l t hl gl gt l.length 0 (by omega) (by omega)).mono fun r h2 h3 => ⟨by simpa using h, fun y hy => h2 h3 y (by rwa [List.drop_zero])⟩
theorem path_j3 (lo hi : Int) (a : Int) (l : List Pt) (t : List Ft) (hl : l.length ≤ 1048576) (gl : ∀ y, y ∈ l → Fit25 y) (gt : ∀ y, y ∈ t → Fit51 y) :
    Tot (fun k => orielref12_path.j3 k ((d + 1 : Nat) : Int) lo hi a l t) (fun b => b = true → lo ≤ l.length ∧ (l.length : Int) ≤ hi ∧ (a = 7 ↔ t.length = 1) ∧ t.length ≤ 1 ∧ ∀ y, y ∈ l → POk d y) := by
  refine Tot.succ (fun k => by rw [orielref12_path.j3]) ?_
  have no : ∀ Q : Prop, Tot (fun k => orielref12_path.j4 k ((d + 1 : Nat) : Int) true a l t) (fun b => b = true → Q) := fun Q => (path_j4 hd hp hf true a l t hl gl gt).mono fun r h h2 => by cases (h h2).1
  refine Tot.ite (fun _ => no _) (fun h1 => ?_)
  refine Tot.ite (fun _ => no _) (fun h2 => ?_)
  refine Tot.ite (fun _ => no _) (fun h3 => ?_)
  refine (path_j4 hd hp hf _ a l t hl gl gt).mono fun r h h4 => ?_
  obtain ⟨h5, h6⟩ := h h4
  have h7 : ¬ ((t.length : Int) > 1) := of_decide_eq_false h5
  refine ⟨by omega, by omega, ?_, by omega, h6⟩
  simp only [bne_iff_ne, ne_eq, Decidable.not_not] at h3
  constructor
  · intro ha
    rw [ha] at h3
    have := h3.symm
    simp at this
    omega
  · intro ht
    rw [ht] at h3
    simpa using h3
theorem path_step (x : Pt) (hx : Fit25 x) : Tot (fun k => orielref12_path.f k x.f0 x.f1 x.f2 ((d + 1 : Nat) : Int)) (fun b => b = true → POk (d + 1) x) := by
  obtain ⟨a, l, t⟩ := x
  obtain ⟨_, hl, gl, _, gt⟩ := hx.un
  simp only at hl gl gt ⊢
  have J2 : ∀ lo hi : Int, Tot (fun k => orielref12_path.j2 k ((d + 1 : Nat) : Int) lo hi a l t) (fun b => b = true → (a = 6 → l.length = 1) ∧ (a ≠ 6 → lo ≤ l.length ∧ (l.length : Int) ≤ hi) ∧ (a = 7 ↔ t.length = 1) ∧ t.length ≤ 1 ∧ ∀ y, y ∈ l → POk d y) := by
    intro lo hi
    refine Tot.succ (fun k => by rw [orielref12_path.j2]) ?_
    refine Tot.ite (fun h6 => ?_) (fun h6 => ?_)
    · exact (path_j3 hd hp hf 1 1 a l t hl gl gt).mono fun r h h2 => ⟨fun _ => by have := h h2; omega, fun h => absurd h6 h, (h h2).2.2⟩
    · exact (path_j3 hd hp hf lo hi a l t hl gl gt).mono fun r h h2 => ⟨fun h => absurd h h6, fun _ => ⟨(h h2).1, (h h2).2.1⟩, (h h2).2.2⟩
  have J1 : ∀ fl : Bool, (fl = true ↔ (a = 4 ∨ a = 5)) → (1 ≤ a ∧ a ≤ 7) → Tot (fun k => orielref12_path.j1 k ((d + 1 : Nat) : Int) 0 0 fl a l t) (fun b => b = true → POk (d + 1) ⟨a, l, t⟩) := by
    intro fl hfl ha
    refine Tot.succ (fun k => by rw [orielref12_path.j1]) ?_
    refine Tot.ite (fun h => ?_) (fun h => ?_)
    · have h45 := hfl.1 h
      refine (J2 2 64).mono fun r h2 h3 => ?_
      obtain ⟨k1, k2, k3, k4, k5⟩ := h2 h3
      exact ⟨ha, fun _ => by have := k2 (by omega); constructor <;> simp only <;> omega, fun h6 => k1 h6, fun h4 h5 _ => by simp only at h4 h5; omega, k3, k4, k5⟩
    · have h45 : ¬ (a = 4 ∨ a = 5) := fun h2 => h (hfl.2 h2)
      refine (J2 0 0).mono fun r h2 h3 => ?_
      obtain ⟨k1, k2, k3, k4, k5⟩ := h2 h3
      exact ⟨ha, fun h => absurd h h45, fun h6 => k1 h6, fun _ _ h6 => by have := k2 h6; simp only; omega, k3, k4, k5⟩
  have J0 : ∀ fl : Bool, (fl = false → 1 ≤ a ∧ a ≤ 7) → Tot (fun k => orielref12_path.j0 k ((d + 1 : Nat) : Int) fl a l t) (fun b => b = true → POk (d + 1) ⟨a, l, t⟩) := by
    intro fl ha
    refine Tot.succ (fun k => by rw [orielref12_path.j0]) ?_
    refine Tot.ite (fun h => Tot.ret (fun h => by cases h)) (fun h => ?_)
    have ha := ha (by simpa using h)
    refine Tot.ite (fun h4 => J1 true (by simp [h4]) ha) (fun h4 => J1 _ (by simp [h4]) ha)
  refine Tot.succ (fun k => by rw [orielref12_path.f]) ?_
  refine Tot.ite (fun h => by omega) (fun _ => ?_)
  refine Tot.ite (fun h => J0 true (fun h => by cases h)) (fun h => J0 _ (fun h2 => ?_))
  have := of_decide_eq_false h2
  omega
theorem filter_step (x : Ft) (hx : Fit51 x) : Tot (fun k => orielref12_filter.f k x.f0 x.f1.f0 x.f1.f1 x.f2 x.f3 x.f4 ((d + 1 : Nat) : Int)) An := by
  obtain ⟨a, ⟨s1, s2⟩, s3, t, l⟩ := x
  obtain ⟨_, hn, h3, ht, gt, hl, gl⟩ := hx.un
  obtain ⟨h1, h2⟩ := hn.un
  simp only at h1 h2 h3 ht gt hl gl ⊢
  have hend : Tot (fun k => if (l.length : Int) = 0 then some true else (if 0 < (l.length : Int) then ((orielref12_path.f k ((rd_T25 l 0).f0) ((rd_T25 l 0).f1) ((rd_T25 l 0).f2) (wrap64 (((d + 1 : Nat) : Int) - 1))).bind fun t272 => (some t272)) else none)) An := by
    refine Tot.ite (fun _ => Tot.ret trivial) (fun h => ?_)
    refine Tot.ite (fun h2 => ?_) (fun h => by omega)
    have h3 : 0 < l.length := by omega
    rw [show rd_T25 l 0 = l[0] from rdP h3, dec1 hd]
    exact Tot.bind (hp _ (gl _ (List.getElem_mem h3))) (fun b _ => Tot.ret trivial)
  have L0 : ∀ b i, t.length - i ≤ b → i ≤ t.length → Tot (fun k => orielref12_filter.l0 k ((d + 1 : Nat) : Int) (i : Nat) a s1 s2 s3 t l) An := by
    intro b
    induction b with
    | zero =>
      intro i hb hi
      refine Tot.succ (fun k => by rw [orielref12_filter.l0]) ?_
      exact Tot.ite (fun h => by omega) (fun _ => hend)
    | succ b ih =>
      intro i hb hi
      refine Tot.succ (fun k => by rw [orielref12_filter.l0]) ?_
      refine Tot.ite (fun h => ?_) (fun _ => hend)
      refine Tot.ite (fun _ => ?_) (fun h => by omega)
      have hi2 : i < t.length := by omega
      rw [rdF hi2, dec1 hd]
      refine Tot.bind (hf _ (gt _ (List.getElem_mem hi2))) (fun r _ => ?_)
      refine Tot.ite (fun _ => ?_) (fun _ => Tot.ret trivial)
      rw [w64 (by omega) (by omega)]
      exact ih (i + 1) (by omega) (by omega)
  have J8 : ∀ fl, Tot (fun k => orielref12_filter.j8 k ((d + 1 : Nat) : Int) fl a s1 s2 s3 t l) An := by
    intro fl
    refine Tot.succ (fun k => by rw [orielref12_filter.j8]) ?_
    exact Tot.ite (fun _ => Tot.ret trivial) (fun _ => L0 t.length 0 (by omega) (by omega))
  have J7 : ∀ lo hi, Tot (fun k => orielref12_filter.j7 k ((d + 1 : Nat) : Int) lo hi a s1 s2 s3 t l) An := by
    intro lo hi
    refine Tot.succ (fun k => by rw [orielref12_filter.j7]) ?_
    exact Tot.ite (fun _ => J8 _) (fun _ => Tot.ite (fun _ => J8 _) (fun _ => Tot.ite (fun _ => J8 _) (fun _ => J8 _)))
  have J6 : ∀ lo hi fl, Tot (fun k => orielref12_filter.j6 k ((d + 1 : Nat) : Int) lo hi fl a s1 s2 s3 t l) An := by
    intro lo hi fl
    refine Tot.succ (fun k => by rw [orielref12_filter.j6]) ?_
    exact Tot.ite (fun _ => J7 _ _) (fun _ => J7 _ _)
  have J5 : ∀ lo hi, Tot (fun k => orielref12_filter.j5 k ((d + 1 : Nat) : Int) lo hi a s1 s2 s3 t l) An := by
    intro lo hi
    refine Tot.succ (fun k => by rw [orielref12_filter.j5]) ?_
    exact Tot.ite (fun _ => J6 _ _ _) (fun _ => J6 _ _ _)
  have J4 : ∀ fl, Tot (fun k => orielref12_filter.j4 k ((d + 1 : Nat) : Int) fl a s1 s2 s3 t l) An := by
    intro fl
    refine Tot.succ (fun k => by rw [orielref12_filter.j4]) ?_
    exact Tot.ite (fun _ => Tot.ret trivial) (fun _ => Tot.ite (fun _ => J5 _ _) (fun _ => J5 _ _))
  have R4 := right04_tot s3 (by omega)
  have J3 : ∀ f1 f2, Tot (fun k => orielref12_filter.j3 k ((d + 1 : Nat) : Int) f1 f2 a s1 s2 s3 t l) An := by
    intro f1 f2
    refine Tot.succ (fun k => by rw [orielref12_filter.j3]) ?_
    refine Tot.ite (fun _ => Tot.ret trivial) (fun _ => ?_)
    have B : Tot (fun k => (orielref04_Right.f k s3).bind fun t266 => orielref12_filter.j4 k ((d + 1 : Nat) : Int) (!t266) a s1 s2 s3 t l) An := Tot.bind R4 (fun b _ => J4 _)
    exact Tot.ite (fun _ => Tot.ite (fun _ => Tot.ite (fun _ => J4 _) (fun _ => B)) (fun _ => B)) (fun _ => Tot.ite (fun _ => Tot.ite (fun _ => J4 _) (fun _ => B)) (fun _ => J4 _))
  have J2 : ∀ f1 f2, Tot (fun k => orielref12_filter.j2 k ((d + 1 : Nat) : Int) f1 f2 a s1 s2 s3 t l) An := by
    intro f1 f2
    refine Tot.succ (fun k => by rw [orielref12_filter.j2]) ?_
    exact Tot.ite (fun _ => J3 _ _) (fun _ => Tot.ite (fun _ => Tot.bind (named_tot s1 s2 (by omega) (by omega)) (fun b _ => J3 _ _)) (fun _ => J3 _ _))
  have J1 : ∀ f1, Tot (fun k => orielref12_filter.j1 k ((d + 1 : Nat) : Int) f1 a s1 s2 s3 t l) An := by
    intro f1
    refine Tot.succ (fun k => by rw [orielref12_filter.j1]) ?_
    exact Tot.ite (fun _ => J2 _ _) (fun _ => J2 _ _)
  have J0 : ∀ f1, Tot (fun k => orielref12_filter.j0 k ((d + 1 : Nat) : Int) f1 a s1 s2 s3 t l) An := by
    intro f1
    refine Tot.succ (fun k => by rw [orielref12_filter.j0]) ?_
    exact Tot.ite (fun _ => Tot.ret trivial) (fun _ => Tot.ite (fun _ => J1 _) (fun _ => J1 _))
  refine Tot.succ (fun k => by rw [orielref12_filter.f]) ?_
  exact Tot.ite (fun _ => J0 _) (fun _ => Tot.ite (fun _ => J0 _) (fun _ => J0 _))
end
theorem path_all : ∀ d : Nat, d ≤ 1000 → (∀ y : Pt, Fit25 y → Tot (fun k => orielref12_path.f k y.f0 y.f1 y.f2 (d : Int)) (fun b => b = true → POk d y)) ∧ (∀ y : Ft, Fit51 y → Tot (fun k => orielref12_filter.f k y.f0 y.f1.f0 y.f1.f1 y.f2 y.f3 y.f4 (d : Int)) An) := by
  intro d
  induction d with
  | zero =>
    intro _
    refine ⟨fun y _ => ?_, fun y _ => ?_⟩
    · refine Tot.succ (fun k => by rw [orielref12_path.f]) ?_
      refine Tot.ite (fun _ => ?_) (fun h => absurd rfl h)
      refine Tot.succ (fun k => by rw [orielref12_path.j0]) ?_
      exact Tot.ite (fun _ => Tot.ret (fun h => by cases h)) (fun h => absurd rfl h)
    · refine Tot.succ (fun k => by rw [orielref12_filter.f]) ?_
      refine Tot.ite (fun _ => ?_) (fun h => absurd rfl h)
      refine Tot.succ (fun k => by rw [orielref12_filter.j0]) ?_
      exact Tot.ite (fun _ => Tot.ret trivial) (fun h => absurd rfl h)
  | succ d ih =>
    intro hd
    obtain ⟨h1, h2⟩ := ih (by omega)
    exact ⟨path_step (by omega) h1 h2, filter_step (by omega) h1 h2⟩
/-- what Right tells: always an answer; where it is yes, so many parts at the most, each as its kind asks -/
theorem right_tot (x : Pt) (hx : Fit25 x) : Tot (fun k => orielref12_Right.f k x.f0 x.f1 x.f2) (fun b => b = true → POk 16 x ∧ ∀ d, cnt d x ≤ 64) := by
  refine Tot.congr (fun k => by rw [orielref12_Right.f, orielref12_Size.f]) ?_
  refine Tot.bind (Tot.bind ((size_good (SizeOf.sizeOf x + 1)).1 x (by omega) hx 64 (by omega) (by omega)) (fun r h => Tot.ret (P := SizeP 64 x) h)) (fun r h => ?_)
  refine Tot.ite (fun h64 => ?_) (fun _ => Tot.ret (fun h => by cases h))
  refine Tot.bind ((path_all 16 (by omega)).1 x hx) (fun b hb => Tot.ret (fun h2 => ⟨hb h2, fun d => ?_⟩))
  have := h.2.2 h64 d
  omega
end Go.Proofs.Ytmbbjdkcanoklaa.Pa

/- The machine of a right path: its states, edges and tests. -/
set_option linter.unusedVariables false
set_option linter.unusedSimpArgs false
namespace Go.Proofs.Ytmbbjdkcanoklaa.Pr
open Go.RowKit Go.Proofs.YtmbbjdkcanoklaaW.PrintWords Go.Proofs.YtmbbjdkcanoklaaW.XConv Go.Proofs.Ytmbbjdkcanoklaa.E Go.Proofs.Ytmbbjdkcanoklaa.X Go.Proofs.Ytmbbjdkcanoklaa.Pa
/-- edge e asks test i -/
def asks (i : Int) (e : MkE) : Bool := decide (e.f2 = 3 ∧ e.f3 = i)
structure MkI (m : MkS) : Prop where
  n0 : 0 ≤ m.1
  ed : ∀ e, e ∈ m.2.1 → 0 ≤ e.f0 ∧ e.f0 < m.1 ∧ 0 ≤ e.f1 ∧ e.f1 < m.1 ∧ 0 ≤ e.f2 ∧ e.f2 ≤ 3 ∧ (e.f2 = 3 → 0 ≤ e.f3 ∧ e.f3 < m.2.2.length)
  ask : ∀ i : Nat, i < m.2.2.length → m.2.1.countP (asks i) = 1
theorem MkI.zero : MkI (0, [], []) := ⟨Int.le_refl _, fun e h => absurd h (List.not_mem_nil), fun i h => absurd h (Nat.not_lt_zero _)⟩
theorem MkI.more {m : MkS} (h : MkI m) (n : Int) (hn : m.1 ≤ n) : MkI (n, m.2.1, m.2.2) :=
  ⟨Int.le_trans h.n0 hn, fun e he => by have := h.ed e he; exact ⟨this.1, by simp only; omega, this.2.2.1, by simp only; omega, this.2.2.2.2⟩, h.ask⟩
theorem MkI.push {m : MkS} (h : MkI m) (e : MkE) (h1 : 0 ≤ e.f0 ∧ e.f0 < m.1 ∧ 0 ≤ e.f1 ∧ e.f1 < m.1 ∧ 0 ≤ e.f2 ∧ e.f2 ≤ 2) : MkI (m.1, m.2.1 ++ [e], m.2.2) := by
  refine ⟨h.n0, fun x hx => ?_, fun i hi => ?_⟩
  · rcases List.mem_append.1 hx with hx | hx
    · exact h.ed x hx
    · rw [List.mem_singleton] at hx
      subst hx
      exact ⟨h1.1, h1.2.1, h1.2.2.1, h1.2.2.2.1, h1.2.2.2.2.1, by omega, fun h => by omega⟩
  · rw [List.countP_append, h.ask i hi, List.countP_singleton]
    rw [if_neg (by unfold asks; simp only [decide_eq_true_eq]; omega)]
theorem MkI.test {m : MkS} (h : MkI m) (e : MkE) (t : List MkF) (ht : t.length = 1) (h1 : 0 ≤ e.f0 ∧ e.f0 < m.1 ∧ 0 ≤ e.f1 ∧ e.f1 < m.1) (h2 : e.f2 = 3) (h3 : e.f3 = m.2.2.length) : MkI (m.1, m.2.1 ++ [e], m.2.2 ++ t) := by
  refine ⟨h.n0, fun x hx => ?_, fun i hi => ?_⟩
  · simp only [List.length_append]
    rcases List.mem_append.1 hx with hx | hx
    · have := h.ed x hx
      exact ⟨this.1, this.2.1, this.2.2.1, this.2.2.2.1, this.2.2.2.2.1, this.2.2.2.2.2.1, fun h => by have := this.2.2.2.2.2.2 h; omega⟩
    · rw [List.mem_singleton] at hx
      subst hx
      exact ⟨h1.1, h1.2.1, h1.2.2.1, h1.2.2.2, by omega, by omega, fun _ => by omega⟩
  · simp only [List.length_append] at hi
    rw [List.countP_append, List.countP_singleton]
    by_cases c : i < m.2.2.length
    · rw [h.ask i c, if_neg (by unfold asks; simp only [decide_eq_true_eq]; omega)]
    · rw [if_pos (by unfold asks; simp only [decide_eq_true_eq]; omega), List.countP_eq_zero.2]
      intro x hx
      have := (h.ed x hx).2.2.2.2.2.2
      unfold asks
      simp only [decide_eq_true_eq]
      omega
/-- room for c parts more -/
structure MkB (m : MkS) (c : Nat) : Prop where
  n : m.1 + 2 * c ≤ 700000000
  e : m.2.1.length + 3 * c ≤ 700000000
  t : m.2.2.length + c ≤ 700000000
/-- what c parts make of it; u: so many edges fewer than they might be -/
structure MkR (m m' : MkS) (c u : Nat) : Prop where
  inv : MkI m'
  n1 : m.1 ≤ m'.1
  n2 : m'.1 ≤ m.1 + 2 * c
  e2 : m'.2.1.length + u ≤ m.2.1.length + 3 * c
  t2 : m'.2.2.length ≤ m.2.2.length + c
theorem mkB_of {m : MkS} (h : MkI m) {c : Nat} (b : MkB m c) : mkB m := by
  have h0 := h.n0
  have := b.n
  have := b.e
  have := b.t
  unfold mkB
  omega
theorem free_ok {m : MkS} (h : MkI m) {c : Nat} (b : MkB m c) (x y : Int) (hx : 0 ≤ x ∧ x < m.1) (hy : 0 ≤ y ∧ y < m.1) : mkFreeF x y m = some (m.1, m.2.1 ++ [⟨x, y, 0, 0⟩], m.2.2) ∧ MkI (m.1, m.2.1 ++ [⟨x, y, 0, 0⟩], m.2.2) := by
  refine ⟨?_, h.push _ ⟨hx.1, hx.2, hy.1, hy.2, (Int.le_refl 0 : (0 : Int) ≤ 0), (by omega : (0 : Int) ≤ 2)⟩⟩
  unfold mkFreeF
  rw [if_pos (mkB_of h b)]
def Goes (F : MkP → MkS → Option (MkS × Int × Int)) (d : Nat) : Prop :=
  ∀ p m, POk d p → MkI m → MkB m (cnt d p) → ∃ m' a b, F p m = some (m', a, b) ∧ MkR m m' (cnt d p) 2 ∧ (0 ≤ a ∧ a < m'.1) ∧ (0 ≤ b ∧ b < m'.1)
theorem seqL_ok {F : MkP → MkS → Option (MkS × Int × Int)} {d : Nat} (hF : Goes F d) (a : Int) : ∀ (l : List MkP) (m : MkS) (b : Int), (∀ p, p ∈ l → POk d p) → MkI m → MkB m ((l.map (cnt d)).sum) → (0 ≤ a ∧ a < m.1) → (0 ≤ b ∧ b < m.1) →
    ∃ m' b', mkSeqL F l m a b = some (m', a, b') ∧ MkR m m' ((l.map (cnt d)).sum) 0 ∧ (0 ≤ a ∧ a < m'.1) ∧ (0 ≤ b' ∧ b' < m'.1) := by
  intro l
  induction l with
  | nil => intro m b _ h _ ha hb; exact ⟨m, b, rfl, ⟨h, Int.le_refl _, by simp, by simp, by simp⟩, ha, hb⟩
  | cons p l ih =>
    intro m b hl h hB ha hb
    simp only [List.map_cons, List.sum_cons] at hB ⊢
    have q1 := hB.n
    have q2 := hB.e
    have q3 := hB.t
    obtain ⟨m1, a1, b1, e1, r1, ha1, hb1⟩ := hF p m (hl p List.mem_cons_self) h ⟨by omega, by omega, by omega⟩
    have s1 := r1.n1
    have s2 := r1.n2
    have s3 := r1.e2
    have s4 := r1.t2
    obtain ⟨e2, h2⟩ := free_ok r1.inv (c := (l.map (cnt d)).sum) ⟨by omega, by omega, by omega⟩ b a1 ⟨hb.1, by omega⟩ ha1
    obtain ⟨m3, b3, e3, r3, ha3, hb3⟩ := ih (m1.1, m1.2.1 ++ [⟨b, a1, 0, 0⟩], m1.2.2) b1 (fun x hx => hl x (List.mem_cons_of_mem _ hx)) h2 ⟨by simp only; omega, by simp; omega, by simp only; omega⟩ ⟨ha.1, by simp only; omega⟩ hb1
    refine ⟨m3, b3, ?_, ?_, ha3, hb3⟩
    · rw [mkSeqL, e1, Option.bind_some, e2, Option.bind_some, e3]
    · have t1 := r3.n1
      have t2 := r3.n2
      have t3 := r3.e2
      have t4 := r3.t2
      simp only [List.length_append, List.length_singleton] at t1 t2 t3 t4
      exact ⟨r3.inv, by omega, by omega, by omega, by omega⟩
theorem altL_ok {F : MkP → MkS → Option (MkS × Int × Int)} {d : Nat} (hF : Goes F d) (s : Int) : ∀ (l : List MkP) (m : MkS) (e : List Int), (∀ p, p ∈ l → POk d p) → MkI m → MkB m ((l.map (cnt d)).sum) → (0 ≤ s ∧ s < m.1) → (∀ x, x ∈ e → 0 ≤ x ∧ x < m.1) → e.length + l.length ≤ 1000 →
    ∃ m' e', mkAltL F s l m e = some (m', e') ∧ MkR m m' ((l.map (cnt d)).sum) l.length ∧ (∀ x, x ∈ e' → 0 ≤ x ∧ x < m'.1) ∧ e'.length = e.length + l.length := by
  intro l
  induction l with
  | nil => intro m e _ h _ _ he _; exact ⟨m, e, rfl, ⟨h, Int.le_refl _, by simp, by simp, by simp⟩, he, by simp⟩
  | cons p l ih =>
    intro m e hl h hB hs he hle
    simp only [List.map_cons, List.sum_cons, List.length_cons] at hB hle ⊢
    have q1 := hB.n
    have q2 := hB.e
    have q3 := hB.t
    obtain ⟨m1, a1, b1, e1, r1, ha1, hb1⟩ := hF p m (hl p List.mem_cons_self) h ⟨by omega, by omega, by omega⟩
    have s1 := r1.n1
    have s2 := r1.n2
    have s3 := r1.e2
    have s4 := r1.t2
    obtain ⟨e2, h2⟩ := free_ok r1.inv (c := (l.map (cnt d)).sum) ⟨by omega, by omega, by omega⟩ s a1 ⟨hs.1, by omega⟩ ha1
    obtain ⟨m3, e4, e3, r3, he3, hl3⟩ := ih (m1.1, m1.2.1 ++ [⟨s, a1, 0, 0⟩], m1.2.2) (e ++ [b1]) (fun x hx => hl x (List.mem_cons_of_mem _ hx)) h2 ⟨by simp only; omega, by simp; omega, by simp only; omega⟩ ⟨hs.1, by simp only; omega⟩ (fun x hx => by
      rcases List.mem_append.1 hx with hx | hx
      · have := he x hx
        simp only
        omega
      · rw [List.mem_singleton] at hx
        subst hx
        exact hb1) (by simp; omega)
    refine ⟨m3, e4, ?_, ?_, he3, by rw [hl3]; simp; omega⟩
    · rw [mkAltL, e1, Option.bind_some, e2, Option.bind_some, if_pos (by omega), e3]
    · have t1 := r3.n1
      have t2 := r3.n2
      have t3 := r3.e2
      have t4 := r3.t2
      simp only [List.length_append, List.length_singleton] at t1 t2 t3 t4
      exact ⟨r3.inv, by omega, by omega, by omega, by omega⟩
theorem endsL_ok (t : Int) : ∀ (l : List Int) (m : MkS), MkI m → m.1 ≤ 700000000 → m.2.1.length + l.length ≤ 700000000 → m.2.2.length ≤ 700000000 → (0 ≤ t ∧ t < m.1) → (∀ x, x ∈ l → 0 ≤ x ∧ x < m.1) →
    ∃ m', mkEndsL t l m = some m' ∧ MkI m' ∧ m'.1 = m.1 ∧ m'.2.1.length = m.2.1.length + l.length ∧ m'.2.2 = m.2.2 := by
  intro l
  induction l with
  | nil => intro m h _ _ _ _ _; exact ⟨m, rfl, h, rfl, by simp, rfl⟩
  | cons b l ih =>
    intro m h q1 q2 q3 ht hl
    simp only [List.length_cons] at q2 ⊢
    obtain ⟨e2, h2⟩ := free_ok h (c := 0) ⟨by omega, by omega, by omega⟩ b t (hl b List.mem_cons_self) ht
    obtain ⟨m3, e3, h3, k1, k2, k3⟩ := ih (m.1, m.2.1 ++ [⟨b, t, 0, 0⟩], m.2.2) h2 q1 (by simp; omega) q3 ht (fun x hx => hl x (List.mem_cons_of_mem _ hx))
    refine ⟨m3, ?_, h3, k1, ?_, k3⟩
    · rw [mkEndsL, e2, Option.bind_some, e3]
    · rw [k2]; simp; omega
theorem step_ok {m : MkS} (h : MkI m) {c : Nat} (hc : 1 ≤ c) (b : MkB m c) (x y : Int) (hx : 0 ≤ x ∧ x ≤ 2) : ∃ m' a b, mkStepF x y m = some (m', a, b) ∧ MkR m m' c 2 ∧ (0 ≤ a ∧ a < m'.1) ∧ (0 ≤ b ∧ b < m'.1) := by
  have h0 := h.n0
  refine ⟨_, _, _, if_pos (mkB_of h b), ⟨(h.more (m.1 + 2) (by omega)).push ⟨m.1, m.1 + 1, x, y⟩ ⟨h0, by simp only; omega, by simp only; omega, by simp only; omega, hx.1, hx.2⟩, ?_, ?_, ?_, ?_⟩, ⟨h0, ?_⟩, ⟨?_, ?_⟩⟩
  all_goals (first | (simp only [List.length_append, List.length_singleton]; omega) | omega)
theorem path_ok : ∀ d, Goes (mkPath d) d := by
  intro d
  induction d with
  | zero => intro p m h; exact h.elim
  | succ d ih =>
    intro p m hp h hB
    obtain ⟨hop, h45, h6, hno, h7, ht, hsub⟩ := hp
    have hc : cnt (d + 1) p = 1 + (p.f1.map (cnt d)).sum := rfl
    have h0 := h.n0
    have q1 := hB.n
    have q2 := hB.e
    have q3 := hB.t
    rw [mkPath]
    by_cases c2 : p.f0 = 2
    · rw [if_pos c2]; exact step_ok h (by omega) hB 1 0 (by omega)
    rw [if_neg c2]
    by_cases c3 : p.f0 = 3
    · rw [if_pos c3]; exact step_ok h (by omega) hB 2 0 (by omega)
    rw [if_neg c3]
    by_cases c4 : p.f0 = 4
    · rw [if_pos c4]
      have hl := h45 (.inl c4)
      cases hl1 : p.f1 with
      | nil => rw [hl1] at hl; simp at hl
      | cons x l =>
        rw [hl1] at hsub hc
        simp only [List.map_cons, List.sum_cons] at hc
        obtain ⟨m1, a1, b1, e1, r1, ha1, hb1⟩ := ih x m (hsub x List.mem_cons_self) h ⟨by omega, by omega, by omega⟩
        have s1 := r1.n1
        have s2 := r1.n2
        have s3 := r1.e2
        have s4 := r1.t2
        obtain ⟨m3, b3, e3, r3, ha3, hb3⟩ := seqL_ok ih a1 l m1 b1 (fun y hy => hsub y (List.mem_cons_of_mem _ hy)) r1.inv ⟨by omega, by omega, by omega⟩ ha1 hb1
        refine ⟨m3, a1, b3, ?_, ?_, ha3, hb3⟩
        · unfold mkSeqF
          simp only
          rw [e1, Option.bind_some, e3]
        · have t1 := r3.n1
          have t2 := r3.n2
          have t3 := r3.e2
          have t4 := r3.t2
          exact ⟨r3.inv, by omega, by omega, by omega, by omega⟩
    rw [if_neg c4]
    by_cases c5 : p.f0 = 5
    · rw [if_pos c5]
      have hl := h45 (.inr c5)
      obtain ⟨m1, e1, k1, r1, he1, hle⟩ := altL_ok ih m.1 p.f1 (m.1 + 1, m.2.1, m.2.2) [] hsub (h.more (m.1 + 1) (by omega)) ⟨by simp only; omega, by simp only; omega, by simp only; omega⟩ ⟨h0, by simp only; omega⟩ (fun x hx => by cases hx) (by simp; omega)
      have s1 := r1.n1
      have s2 := r1.n2
      have s3 := r1.e2
      have s4 := r1.t2
      simp only [List.length_nil, Nat.zero_add] at s1 s2 s3 s4 hle
      have hm1 := r1.inv.n0
      obtain ⟨m3, k3, h3, u1, u2, u3⟩ := endsL_ok m1.1 e1 (m1.1 + 1, m1.2.1, m1.2.2) (r1.inv.more (m1.1 + 1) (by omega)) (by simp only; omega) (by simp only; omega) (by simp only; omega) ⟨hm1, by simp only; omega⟩ (fun x hx => by have := he1 x hx; simp only; omega)
      simp only at u1 u2 u3
      refine ⟨m3, m.1, m1.1, ?_, ⟨h3, by omega, by omega, by omega, by rw [u3]; omega⟩, ⟨h0, by omega⟩, ⟨hm1, by omega⟩⟩
      unfold mkAltF
      rw [if_pos (mkB_of h hB), k1, Option.bind_some]
      simp only
      rw [if_pos (mkB_of r1.inv (c := 0) ⟨by omega, by omega, by omega⟩), k3, Option.bind_some]
    rw [if_neg c5]
    by_cases c6 : p.f0 = 6
    · rw [if_pos c6]
      have hl := h6 c6
      cases hl1 : p.f1 with
      | nil => rw [hl1] at hl; simp at hl
      | cons x l =>
        rw [hl1] at hsub hc
        simp only [List.map_cons, List.sum_cons] at hc
        obtain ⟨m1, a1, b1, e1, r1, ha1, hb1⟩ := ih x (m.1 + 1, m.2.1, m.2.2) (hsub x List.mem_cons_self) (h.more (m.1 + 1) (by omega)) ⟨by simp only; omega, by simp only; omega, by simp only; omega⟩
        have s1 := r1.n1
        have s2 := r1.n2
        have s3 := r1.e2
        have s4 := r1.t2
        simp only at s1 s2 s3 s4
        obtain ⟨e2, h2⟩ := free_ok r1.inv (c := 0) ⟨by omega, by omega, by omega⟩ m.1 a1 ⟨h0, by omega⟩ ha1
        obtain ⟨e3, h3⟩ := free_ok h2 (c := 0) ⟨by simp only; omega, by simp; omega, by simp only; omega⟩ b1 m.1 hb1 ⟨h0, by simp only; omega⟩
        refine ⟨_, m.1, m.1, ?_, ⟨h3, ?_, ?_, ?_, ?_⟩, ⟨h0, ?_⟩, ⟨h0, ?_⟩⟩
        · unfold mkStarF
          simp only
          rw [if_pos (mkB_of h hB), e1, Option.bind_some]
          simp only
          rw [e2, Option.bind_some, e3, Option.bind_some]
        all_goals (first | (simp only [List.length_append, List.length_singleton]; omega) | omega)
    rw [if_neg c6]
    by_cases c7 : p.f0 = 7
    · rw [if_pos c7]
      have hl := h7.1 c7
      unfold mkTestF
      rw [if_pos (mkB_of h hB), if_pos (by omega)]
      have hm : mkB (m.1, m.2.1, m.2.2 ++ p.f2) := by
        unfold mkB
        simp only [List.length_append]
        omega
      refine ⟨_, _, _, if_pos hm, ⟨(h.more (m.1 + 2) (by omega)).test ⟨m.1, m.1 + 1, 3, (m.2.2.length : Int) + p.f2.length - 1⟩ p.f2 hl ⟨h0, by simp only; omega, by simp only; omega, by simp only; omega⟩ rfl (by simp only; omega), ?_, ?_, ?_, ?_⟩, ⟨h0, ?_⟩, ⟨?_, ?_⟩⟩
      all_goals (first | (simp only [List.length_append, List.length_singleton]; omega) | omega)
    rw [if_neg c7]
    exact step_ok h (by omega) hB 0 0 (by omega)
/-- a right path's machine -/
theorem compile_ok (p : MkP) (hp : POk 16 p) (hc : cnt 16 p ≤ 64) : ∃ m a b, Evn (fun k => prog_Compile.f k p.f0 p.f1 p.f2) (m.1, a, b, m.2.1, m.2.2) ∧ MkI m ∧ m.1 ≤ 1000 ∧ m.2.1.length ≤ 1000 ∧ m.2.2.length ≤ 1000 ∧ (0 ≤ a ∧ a < m.1) ∧ (0 ≤ b ∧ b < m.1) := by
  obtain ⟨m, a, b, e, r, ha, hb⟩ := path_ok 16 p (0, [], []) hp MkI.zero ⟨by simp only; omega, by simp; omega, by simp; omega⟩
  have s2 := r.n2
  have s3 := r.e2
  have s4 := r.t2
  simp only [List.length_nil] at s2 s3 s4
  refine ⟨m, a, b, Evn.of_mono (k := 16) (fun k => prog_Compile.mono _ _ _ k) ?_, r.inv, by omega, by omega, by omega, ha, hb⟩
  rw [prog_Compile.f, show (⟨p.f0, p.f1, p.f2⟩ : MkP) = p from by cases p; rfl, e]
  rfl
end Go.Proofs.Ytmbbjdkcanoklaa.Pr
