/- For the second form (Upto): what reads as data of a type lies in memory as that type's kind says, and none of its strings and slices is longer than the bound on the bulk. -/
import Derived.Test.YtmbbjdkcanoklaaWWords
import Derived.Test.YtmbbjdkcanoklaaRows
import Derived.ChangeSame
import Derived.ChangeArms
import Derived.SizedLaws
import Derived.DataElems
set_option linter.unusedVariables false
namespace Go.Proofs.YtmbbjdkcanoklaaW.PrintWords
open Go Go.RowKit Go.ChangeShapes Go.WideShapes Go.Proofs.Ytmbbjdkcanoklaa
abbrev FitS (x : ByteArray) : Prop := x.size ≤ 1048576
abbrev FitI (k : IntKind) (x : Int) : Prop := (Lit.int k x).wf = true
abbrev FitB (x : Bool) : Prop := True
def FitL {α : Type} (B : Nat) (p : α → Prop) (x : List α) : Prop := x.length ≤ 1048576 ∧ ∀ y, y ∈ x → p y
theorem FitL.mk {α : Type} {B : Nat} {p : α → Prop} {x : List α} (h : x.length ≤ 1048576) (hp : ∀ y, y ∈ x → p y) : FitL B p x := ⟨h, hp⟩
section
variable {H : Type}
structure Small (D : DataW H) : Prop where
  le : Rows.uptoBulk D ≤ 1048576
def Opens (enc : TypeId × Value → H) (P : Program) (w : World) (t : TypeId) (m : Nat) (Q : List Value → Prop) : Prop :=
  ∀ j, j ≤ m → ∀ cs D ps, DataW.trod enc P w 0 (fun _ => true) true j t cs = some (D, ps) → Small D → Q cs
variable {enc : TypeId × Value → H} {P : Program} {w : World} {t e : TypeId} {m : Nat} {Q Q' : List Value → Prop}
theorem Opens.mono (h : Opens enc P w t m Q) {m' : Nat} (hm : m' ≤ m) : Opens enc P w t m' Q := fun j hj => h j (Nat.le_trans hj hm)
theorem opens_zero : Opens enc P w t 0 Q := by
  intro j hj cs D ps h _
  obtain rfl : j = 0 := by omega
  simp [DataW.trod] at h
theorem opens_int (k : IntKind) (ht : P.underlying t = some (.int k)) : Opens enc P w t m (fun cs => ∃ x, (Kd.int k).K w x cs ∧ FitI k x) := by
  intro j _ cs D ps h _
  obtain ⟨n, rfl, _, hw⟩ := DataW.trod_int ht h
  exact ⟨n, rfl, hw⟩
theorem opens_bool (ht : P.underlying t = some .bool) : Opens enc P w t m (fun cs => ∃ x, Kd.bool.K w x cs ∧ FitB x) := by
  intro j _ cs D ps h _
  obtain ⟨n, rfl, _⟩ := DataW.trod_bool ht h
  exact ⟨n, rfl, trivial⟩
theorem opens_string (ht : P.underlying t = some .string) : Opens enc P w t m (fun cs => ∃ x, Kd.string.K w x cs ∧ FitS x) := by
  intro j _ cs D ps h hw
  obtain ⟨n, rfl, hx, _⟩ := DataW.trod_string ht h
  refine ⟨n, rfl, ?_⟩
  obtain ⟨rfl, _⟩ := Prod.mk.inj hx
  have hw := hw.le
  simp only [Rows.uptoBulk, Array.length_toList] at hw
  show n.data.size ≤ 1048576
  omega
theorem bulk_all_mem {d : DataW H} : ∀ {l : List (DataW H)}, d ∈ l → Rows.uptoBulk d ≤ Rows.uptoBulkAll l
  | x :: l, h => by
    simp only [Rows.uptoBulkAll]
    rcases List.mem_cons.1 h with rfl | h
    · omega
    · have := bulk_all_mem h
      omega
theorem bulk_one (d : DataW H) : 1 ≤ Rows.uptoBulk d := by
  cases d with
  | lit l => cases l <;> simp [Rows.uptoBulk]
  | nil => simp [Rows.uptoBulk]
  | ptr d => simp [Rows.uptoBulk]
  | slice elems spare => simp [Rows.uptoBulk]
  | agg parts => simp [Rows.uptoBulk]
  | iface t d => simp [Rows.uptoBulk]
  | map entries => simp [Rows.uptoBulk]
  | held h => simp [Rows.uptoBulk]
theorem bulk_len : ∀ (l : List (DataW H)), l.length ≤ Rows.uptoBulkAll l
  | [] => by simp [Rows.uptoBulkAll]
  | x :: l => by
    simp only [Rows.uptoBulkAll, List.length_cons]
    have := bulk_one x
    have := bulk_len l
    omega
theorem opens_slice {α : Type} {d : Kd α} {fit : α → Prop} {B z : Nat} (ht : P.underlying t = some (.slice e)) (hc : P.cellsOf e = z) (hz : d.sz = z) (hB : P.bytesOf e = B)
    (h : Opens enc P w e m (fun cs => ∃ x, d.K w x cs ∧ fit x)) : Opens enc P w t m (fun cs => ∃ xs, (Kd.slice e d).K w xs cs ∧ FitL B fit xs) := by
  intro j hj cs D ps hD hw
  rcases DataW.trod_slice ht hD with ⟨rfl, hx⟩ | ⟨a, len, cap, elems, rest, n, rfl, rfl, hx, _, hl, hm, hlen, hel, _, _⟩
  · exact ⟨[], ⟨none, 0, rfl, Nat.le_refl _, rfl, Nat.zero_le _, fun h0 => absurd h0 (Nat.lt_irrefl 0)⟩, by simp, fun y hy => by simp at hy⟩
  · obtain ⟨rfl, _⟩ := Prod.mk.inj hx
    have hx : ∀ i, i < len → ∃ x c, c.length = z ∧ d.K w x c ∧ fit x ∧ ∀ q u, c[q]? = some u → w.cell? (a.add (i * z + q)) = some u := by
      intro i hi
      have h1 := hel i hi
      rw [List.getElem?_eq_getElem (by omega)] at h1
      obtain ⟨c, hcs, htr⟩ := Option.bind_eq_some_iff.1 h1
      obtain ⟨_, hcl, hcc⟩ := World.cells?_some hcs
      rw [hc] at hcl hcc
      obtain ⟨x, hk, hf⟩ := h n (by omega) c _ _ htr (by
        have hw := hw.le
        simp only [Rows.uptoBulk] at hw
        exact ⟨Nat.le_trans (bulk_all_mem (l := elems.map (fun x => x.1)) (List.mem_map_of_mem (List.getElem_mem _))) (by omega)⟩)
      refine ⟨x, c, hcl, hk, hf, fun q u hq => ?_⟩
      have hq1 : q < z := by rw [← hcl]; exact (List.getElem?_eq_some_iff.1 hq).1
      have := hcc q hq1
      rw [Addr.add_add] at this
      rw [this, hq]
    have key : ∀ k, k ≤ len → ∃ xs : List α, xs.length = k ∧ ∀ i x, xs[i]? = some x → fit x ∧ ∃ c, c.length = z ∧ d.K w x c ∧ ∀ q u, c[q]? = some u → w.cell? (a.add (i * z + q)) = some u := by
      intro k
      induction k with
      | zero => intro _; exact ⟨[], rfl, fun i x hi => by simp at hi⟩
      | succ k ih =>
        intro hk
        obtain ⟨xs, h1, h2⟩ := ih (by omega)
        obtain ⟨x, c, g1, g2, g3, g4⟩ := hx k (by omega)
        refine ⟨xs ++ [x], by simp [h1], fun i y hi => ?_⟩
        by_cases hik : i < k
        · rw [List.getElem?_append_left (by omega)] at hi
          exact h2 i y hi
        · have hi2 := (List.getElem?_eq_some_iff.1 hi).1
          simp [h1] at hi2
          obtain rfl : i = k := by omega
          rw [List.getElem?_append_right (by omega)] at hi
          simp [h1] at hi
          subst hi
          exact ⟨g3, c, g1, g2, g4⟩
    obtain ⟨xs, h1, h2⟩ := key len (Nat.le_refl _)
    refine ⟨xs, ⟨some a, cap, by rw [h1], by omega, h1 ▸ rfl, ?_, ?_⟩, ?_, ?_⟩
    · unfold maxLen at hm; omega
    · intro _
      refine ⟨a, rfl, fun i x hi => ?_⟩
      obtain ⟨_, c, g1, g2, g3⟩ := h2 i x hi
      rw [hz]
      exact ⟨c, g1, g2, g3⟩
    · have h3 := bulk_len (elems.map (·.1))
      have hw := hw.le
      simp only [Rows.uptoBulk] at hw
      simp only [List.length_map] at h3
      omega
    · intro y hy
      obtain ⟨i, hi⟩ := List.mem_iff_getElem?.1 hy
      exact (h2 i y hi).1
theorem opens_field {fs : Array Field} (ht : P.underlying t = some (.struct fs)) {xs : List (DataW H × List MemPlace)} {n : Nat} {cs : List Value}
    (hf : ∀ (i : Nat) (f : Field), fs[i]? = some f → DataW.trod enc P w 0 (fun _ => true) true n f.type ((cs.drop f.offset).take (P.cellsOf f.type)) = xs[i]?)
    (hlen : xs.length = fs.size) (hw : Small (DataW.agg (xs.map (·.1)))) (hm : n ≤ m) (i : Nat) {f : Field} (hi : fs[i]? = some f) {z : Nat} (hz : P.cellsOf f.type = z)
    {ds : List Value} (hd : (cs.drop f.offset).take z = ds) (h : Opens enc P w f.type m Q) : Q ds := by
  have h1 := hf i f hi
  rw [hz, hd] at h1
  have hi2 : i < xs.length := by rw [hlen]; exact (Array.getElem?_eq_some_iff.1 hi).1
  rw [List.getElem?_eq_getElem hi2] at h1
  refine h n hm ds _ _ h1 ?_
  have hw := hw.le
  simp only [Rows.uptoBulk] at hw
  exact ⟨Nat.le_trans (bulk_all_mem (l := xs.map (fun x => x.1)) (List.mem_map_of_mem (List.getElem_mem _))) (by omega)⟩
theorem opens_small {ds : List (DataW H)} (hk : Rows.uptoSmall H ds = true) {j : Nat} {d : DataW H} (hd : ds[j]? = some d) : Small d := by
  have h : Rows.uptoBulkAll ds ≤ 1048576 := of_decide_eq_true hk
  have := bulk_all_mem (List.mem_of_getElem? hd)
  exact ⟨by omega⟩
theorem small_string {ds : List (DataW H)} (hk : Rows.uptoSmall H ds = true) {j : Nat} {x : ByteArray} (hd : ds[j]? = some (.lit (.string x.data.toList))) : x.size ≤ 1048576 := by
  have h := (opens_small hk hd).le
  simp only [Rows.uptoBulk, Array.length_toList] at h
  show x.data.size ≤ 1048576
  omega
end
end Go.Proofs.YtmbbjdkcanoklaaW.PrintWords
