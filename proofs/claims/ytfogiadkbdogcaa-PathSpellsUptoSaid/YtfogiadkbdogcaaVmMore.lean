/- The plain law. -/
import Derived.Test.YtfogiadkbdogcaaVmTbb
import Derived.Test.YtfogiadkbdogcaaVmPure
/- What the document fixes is so. -/
set_option linter.unusedVariables false
set_option linter.unusedSimpArgs false
namespace Go.Vm.T
open Go Go.Vm Go.Proofs
set_option maxRecDepth 100000 in
theorem awake_at (m : Nat) : (lv (m + 40)).oriellaw12_awake = some true := by kernel_rfl
theorem awake_tot : Tot (fun k _ _ => (lv k).oriellaw12_awake) (fun r => r = true) := ⟨true, rfl, 40, fun n _ _ hn _ _ => by
  obtain ⟨m, rfl⟩ : ∃ m, n = m + 40 := ⟨n - 40, by omega⟩
  exact awake_at m⟩
end Go.Vm.T
/- PathSpells: the plain law. -/
set_option linter.unusedVariables false
set_option linter.unusedSimpArgs false
namespace Go.Vm.T
open Go Go.Vm Go.Proofs
attribute [local irreducible] lv oriellaw12_PathSpells_b oriellaw12_awake_b oriellaw12_named_b path_Speaks_b path_Speaks_l0 path_Speaks_l1 path_gather_path_b path_gather_path_l0 path_gather_path_l1 path_gather_filter_b path_gather_filter_l0 path_gather_filter_l1 api_Name_b path_gather_attr_b path_add_string_b api_Name_2_b api_Name_3_b api_Name_3_l0 slices_Contains_string_string_b slices_Index_string_string_b slices_Index_string_string_l0 path_Right_b path_measured_b path_measure_path_b path_measure_path_l0 path_measure_path_l1 path_measure_path_l2 path_measure_path_l3 path_measure_part_b path_add_string_2_b path_measure_filter_b path_measure_filter_l0 path_measure_filter_l1 path_shape_b path_shape_l0 path_shape_l1 path_shape_l2 path_named_b path_value_b name_Plain_b name_Plain_l0 utf_All_b utf_All_l0 utf_All_l1 char_Start_b utf_Rune_b utf_Rune_l0 utf_Rune_l1 utf_Rune_l2 utf_Rune_l3 char_in_b char_in_l0 utf_forms_b char_All_b char_All_l0 char_All_l1 utf_span_b char_Char_b char_Blank_b strings_ContainsAny_b char_Part_b strings_IndexAny_b strings_IndexAny_l0 strings_IndexRune_b strings_IndexRune_l0 strings_shouldUseASCIISet_b utf8_ValidRune_b path_Size_b orielref12_Right_b path_Same_b orielref12_Size_b api_Path_b api_Path_l0 orielref12_size_b orielref12_size_l0 orielref12_size_l1 orielref12_sizeFilter_b orielref12_sizeFilter_l0 orielref12_sizeFilter_l1 api_Filter_b api_Filter_l0 path_sameFilter_b orielref12_path_b orielref12_path_l0 orielref12_path_l1 orielref12_filter_b orielref12_filter_l0 orielref12_filter_l1 orielref12_filter_l2 orielref12_filter_l3 orielref12_filter_l4 orielref12_named_b orielref04_Right_b orielref04_Right_l0 orielref03_Plain_b orielref03_Plain_l0 orielref01_All_b orielref01_All_l0 orielref01_All_l1 orielref02_Start_b orielref01_Rune_b orielref01_Rune_l0 orielref01_Put_b orielref01_cut_b orielref01_cut_l0 orielref01_cut_l1 orielref01_cut_l2 orielref01_cut_l3 orielref01_cut_l4 orielref01_value_b orielref01_value_l0 orielref01_value_l1 orielref02_Char_b orielref02_Part_b orielref01_begins_b orielref01_begins_l0 orielref02_Blank_b orielref05_Find_b orielref05_Find_l0
theorem sz_mono : ∀ {d : Nat} {k : Bool} {a : List C}, ok d k a → sz (d + 1) k a = sz d k a := by
  intro d
  induction d with
  | zero => intro k a h; exact h.elim
  | succ d ih =>
    intro k a h
    have hm : ∀ (l : List (List C)) (k : Bool), (∀ i, i < l.length → ok d k (l.getD i [])) → l.map (sz (d + 1) k) = l.map (sz d k) := fun l k hl => by
      apply List.map_congr_left
      intro x hx
      obtain ⟨i, hi, rfl⟩ := List.mem_iff_getElem.1 hx
      have := hl i hi
      rw [List.getD_eq_getElem?_getD, List.getElem?_eq_getElem hi] at this
      exact ih this
    cases k with
    | true =>
      obtain ⟨_, _, _, _, _, _, _, _, h9, h10⟩ := h
      show 1 + ((gr a 1).map (sz (d + 1) true)).sum + ((gr a 2).map (sz (d + 1) false)).sum = 1 + ((gr a 1).map (sz d true)).sum + ((gr a 2).map (sz d false)).sum
      rw [hm _ _ h9, hm _ _ h10]
    | false =>
      obtain ⟨_, _, _, _, _, _, _, _, h9, h10⟩ := h
      show 1 + ((gr a 4).map (sz (d + 1) false)).sum + ((gr a 5).map (sz (d + 1) true)).sum = 1 + ((gr a 4).map (sz d false)).sum + ((gr a 5).map (sz d true)).sum
      rw [hm _ _ h9, hm _ _ h10]
theorem alike_sz : ∀ (d : Nat) {k : Bool} {a b : List C}, Alike k a b → sz d k a = sz d k b := by
  intro d
  induction d with
  | zero => intro k a b _; cases k <;> rfl
  | succ d ih =>
    intro k a b h
    have hm : ∀ (l m : List (List C)) (k : Bool), l.length = m.length → (∀ i, i < l.length → Alike k (l.getD i []) (m.getD i [])) → l.map (sz d k) = m.map (sz d k) := fun l m k hl hi => by
      apply List.ext_getElem (by simp [hl])
      intro i h1 h2
      have h1 : i < l.length := by simpa using h1
      have h2 : i < m.length := by simpa using h2
      have := hi i h1
      rw [List.getD_eq_getElem?_getD, List.getElem?_eq_getElem h1, List.getD_eq_getElem?_getD, List.getElem?_eq_getElem h2] at this
      simp only [List.getElem_map]
      exact ih this
    cases h with
    | path e1 e2 e3 e4 e5 =>
      show 1 + ((gr a 1).map (sz d true)).sum + ((gr a 2).map (sz d false)).sum = 1 + ((gr b 1).map (sz d true)).sum + ((gr b 2).map (sz d false)).sum
      rw [hm _ _ _ e2 e4, hm _ _ _ e3 e5]
    | filter e1 e2 e3 e4 e5 e6 e7 e8 =>
      show 1 + ((gr a 4).map (sz d false)).sum + ((gr a 5).map (sz d true)).sum = 1 + ((gr b 4).map (sz d false)).sum + ((gr b 5).map (sz d true)).sum
      rw [hm _ _ _ e5 e7, hm _ _ _ e6 e8]
/-- a path of two parts -/
def two (op : Int) (p q : List C) : List C := [C.int .i64 op, C.row 25 [[C.int .i64 (gi p 0), C.row 25 (gr p 1), C.row 52 (gr p 2)], [C.int .i64 (gi q 0), C.row 25 (gr q 1), C.row 52 (gr q 2)]], C.row 52 []]
theorem al_same {p : List C} : Alike true [C.int .i64 (gi p 0), C.row 25 (gr p 1), C.row 52 (gr p 2)] p := .path rfl rfl rfl (fun i _ => Alike.refl _ _) (fun i _ => Alike.refl _ _)
theorem al_two {o o' : Int} {p q r s : List C} : Alike true (two o p q) (two o' r s) ↔ o = o' ∧ Alike true p r ∧ Alike true q s := by
  constructor
  · intro h
    cases h with
    | path e1 e2 e3 e4 e5 => exact ⟨e1, al_same.symm.trans ((e4 0 (show 0 < 2 by omega)).trans al_same), al_same.symm.trans ((e4 1 (show 1 < 2 by omega)).trans al_same)⟩
  · rintro ⟨rfl, h1, h2⟩
    refine .path rfl rfl rfl (fun i hi => ?_) (fun i hi => by exact absurd hi (Nat.not_lt_zero _))
    match i, hi with
    | 0, _ => exact al_same.trans (h1.trans al_same.symm)
    | 1, _ => exact al_same.trans (h2.trans al_same.symm)
    | i + 2, hi => exact absurd hi (by show ¬ i + 2 < 2; omega)
theorem two_ne {p q : List C} (hp : ok 16 true p) {o : Int} : ¬ Alike true (two o p q) p := fun h => by
  have h1 := alike_sz 17 h
  rw [sz_mono hp] at h1
  have h2 : sz 17 true (two o p q) = 1 + (sz 16 true [C.int .i64 (gi p 0), C.row 25 (gr p 1), C.row 52 (gr p 2)] + (sz 16 true [C.int .i64 (gi q 0), C.row 25 (gr q 1), C.row 52 (gr q 2)] + 0)) + 0 := rfl
  have h3 := alike_sz 16 (al_same (p := p))
  omega
theorem wf_small {n : Int} (h : 0 ≤ n) (h' : n ≤ 1000000) : (Lit.int .i64 n).wf = true := by
  simp only [Lit.wf, Bool.and_eq_true, decide_eq_true_eq]
  have h1 : IntKind.i64.min = -9223372036854775808 := rfl
  have h2 : IntKind.i64.max = 9223372036854775807 := rfl
  omega
theorem sm_one {p : List C} (hs : SmR BB p) (h0 : 1 ≤ gi p 0) (h1 : gi p 0 ≤ 7) : SmR BB [C.int .i64 (gi p 0), C.row 25 (gr p 1), C.row 52 (gr p 2)] := fun c hc => by
  simp only [List.mem_cons, List.not_mem_nil, or_false] at hc
  rcases hc with rfl | rfl | rfl
  · exact .int _ _ (wf_small (by omega) (by omega))
  · exact .row _ _ (hs.gr 1).1 (hs.gr 1).2
  · exact .row _ _ (hs.gr 2).1 (hs.gr 2).2
theorem sm_two {p q : List C} (hp : SmR BB p) (hq : SmR BB q) (hpo : ok 16 true p) (hqo : ok 16 true q) {o : Int} (h0 : 0 ≤ o) (h1 : o ≤ 9) : SmR BB (two o p q) := fun c hc => by
  simp only [two, List.mem_cons, List.not_mem_nil, or_false] at hc
  rcases hc with rfl | rfl | rfl
  · exact .int _ _ (wf_small (by omega) (by omega))
  · refine .row _ _ (show 2 ≤ 1048576 by omega) (fun r hr => ?_)
    simp only [List.mem_cons, List.not_mem_nil, or_false] at hr
    rcases hr with rfl | rfl
    · exact sm_one hp hpo.1 hpo.2.1
    · exact sm_one hq hqo.1 hqo.2.1
  · exact .row _ _ (Nat.zero_le _) (fun r hr => by cases hr)
theorem spells_tot (p q : List C) (hp : SmR BB p) (hq : SmR BB q) : Tot (fun k _ _ => (lv k).oriellaw12_PathSpells (gi p 0) (gr p 1) (gr p 2) (gi q 0) (gr q 1) (gr q 2)) (fun r => r = true) := by
  have aw : Tot (fun n _ _ => ((lv n).oriellaw12_awake).bind fun r => some r) (fun r => r = true) := Tot.bind awake_tot fun r hr => Tot.ret hr
  refine oriellaw12_PathSpells_up _ _ _ _ _ _ (Tot.congr ?_ (fun k _ _ => oriellaw12_PathSpells_q (lv k) k (gi p 0) (gr p 1) (gr p 2) (gi q 0) (gr q 1) (gr q 2)))
  refine Tot.bind awake_tot fun r hr => ?_
  subst hr
  refine Tot.f rfl (Tot.bind (right_tot p hp) fun r hr => Tot.cond (fun _ => aw) (fun hb => ?_))
  have h1 := (hr (by simpa using hb)).1
  refine Tot.bind (right_tot q hq) fun r hr => Tot.cond (fun _ => aw) (fun hb => ?_)
  have h2 := (hr (by simpa using hb)).1
  have sm : ∀ (o : Int) (x y : List C), 0 ≤ o → o ≤ 9 → SmR BB x → SmR BB y → ok 16 true x → ok 16 true y → SmR BB (two o x y) := fun o x y a b c d e f => sm_two c d e f a b
  have s4 := sm 4 p q (by decide) (by decide) hp hq h1 h2
  refine Tot.bind (psame_tot (two 4 p q) (two 4 q p) s4 (sm 4 q p (by decide) (by decide) hq hp h2 h1)) fun r1 hr1 => ?_
  refine Tot.bind (psame_tot p q hp hq) fun r2 hr2 => ?_
  have e12 : r1 = r2 := by
    rw [Bool.eq_iff_iff]
    exact ⟨fun h => hr2.2 (al_two.1 (hr1.1 h)).2.1, fun h => hr1.2 (al_two.2 ⟨rfl, hr2.1 h, (hr2.1 h).symm⟩)⟩
  subst e12
  refine Tot.t (by simp) ?_
  refine Tot.bind (psame_tot (two 4 p q) (two 4 p q) s4 s4) fun r3 hr3 => ?_
  refine Tot.t (hr3.2 (Alike.refl _ _)) ?_
  refine Tot.bind (psame_tot (two 4 p q) p s4 hp) fun r4 hr4 => ?_
  have e4 : r4 = false := by
    cases r4
    · rfl
    · exact absurd (hr4.1 rfl) (two_ne h1)
  subst e4
  refine Tot.t rfl ?_
  refine Tot.bind (psame_tot (two 4 p q) (two 5 p q) s4 (sm 5 p q (by decide) (by decide) hp hq h1 h2)) fun r5 hr5 => Tot.ret ?_
  have e5 : r5 = false := by
    cases r5
    · rfl
    · exact absurd (al_two.1 (hr5.1 rfl)).1 (by decide)
  rw [e5]
  rfl
end Go.Vm.T
