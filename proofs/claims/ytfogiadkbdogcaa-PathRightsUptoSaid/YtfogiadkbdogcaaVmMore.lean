/- The plain law. -/
import Derived.Test.YtfogiadkbdogcaaVmTbb
import Derived.Test.YtfogiadkbdogcaaVmPure
import Derived.Laws.RangeAny
/- What the document fixes is so. -/
set_option linter.unusedVariables false
set_option linter.unusedSimpArgs false
namespace Go.Vm.T
open Go Go.Vm Go.Proofs
set_option maxRecDepth 100000 in
theorem awake_at (m : Nat) : (lv (m + 40)).oriellaw12_awake = some true := by kernel_rfl
theorem awake_tot : Tot (fun k _ _ => (lv k).oriellaw12_awake) (fun r => r = true) := ⟨true, rfl, 40, fun n _ _ hn _ _ => by
  obtain ⟨m, rfl⟩ : ∃ m, n = m + 40 := ⟨n - 40, by omega⟩
  exact awake_at m⟩
end Go.Vm.T
/- Texts that may be: the program's value, the document's Right. -/
set_option linter.unusedVariables false
set_option linter.unusedSimpArgs false
namespace Go.Vm.T
open Go Go.Vm Go.Proofs
attribute [local irreducible] lv oriellaw12_PathRights_b oriellaw12_awake_b oriellaw12_named_b path_Speaks_b path_Speaks_l0 path_Speaks_l1 path_gather_path_b path_gather_path_l0 path_gather_path_l1 path_gather_filter_b path_gather_filter_l0 path_gather_filter_l1 api_Name_b path_gather_attr_b path_add_string_b api_Name_2_b api_Name_3_b api_Name_3_l0 slices_Contains_string_string_b slices_Index_string_string_b slices_Index_string_string_l0 path_Right_b path_measured_b path_measure_path_b path_measure_path_l0 path_measure_path_l1 path_measure_path_l2 path_measure_path_l3 path_measure_part_b path_add_string_2_b path_measure_filter_b path_measure_filter_l0 path_measure_filter_l1 path_shape_b path_shape_l0 path_shape_l1 path_shape_l2 path_named_b path_value_b name_Plain_b name_Plain_l0 utf_All_b utf_All_l0 utf_All_l1 char_Start_b utf_Rune_b utf_Rune_l0 utf_Rune_l1 utf_Rune_l2 utf_Rune_l3 char_in_b char_in_l0 utf_forms_b char_All_b char_All_l0 char_All_l1 utf_span_b char_Char_b char_Blank_b char_Part_b path_Size_b orielref12_Size_b path_Same_b orielref12_size_b orielref12_size_l0 orielref12_size_l1 api_Path_b api_Path_l0 orielref12_sizeFilter_b orielref12_sizeFilter_l0 orielref12_sizeFilter_l1 api_Filter_b api_Filter_l0 path_sameFilter_b orielref12_Right_b orielref12_path_b orielref12_path_l0 orielref12_path_l1 orielref12_filter_b orielref12_filter_l0 orielref12_filter_l1 orielref12_filter_l2 orielref12_filter_l3 orielref12_filter_l4 orielref12_named_b orielref04_Right_b orielref04_Right_l0 orielref03_Plain_b orielref03_Plain_l0 orielref01_All_b orielref01_All_l0 orielref01_All_l1 orielref02_Start_b orielref01_Rune_b orielref01_Rune_l0 orielref01_Put_b orielref01_cut_b orielref01_cut_l0 orielref01_cut_l1 orielref01_cut_l2 orielref01_cut_l3 orielref01_cut_l4 orielref01_value_b orielref01_value_l0 orielref01_value_l1 orielref12_Same_b orielref12_Same_l0 orielref12_Same_l1 orielref02_Char_b orielref02_Part_b orielref01_begins_b orielref01_begins_l0 orielref12_SameFilter_b orielref12_SameFilter_l0 orielref12_SameFilter_l1 orielref02_Blank_b orielref05_Find_b orielref05_Find_l0
theorem bt_get (s : ByteArray) (j : Nat) : bt s (j : Int) = ((s.get! j).toNat : Int) := by
  unfold bt
  rw [Int.toNat_natCast]
  show _ = (((s.data[j]!).toNat : Nat) : Int)
  rw [getElem!_def, Array.getD_eq_getD_getElem?]
  cases s.data[j]? <;> rfl
theorem Rn_dec (n b0 b1 b2 b3 : Nat) (hn : 1 ≤ n) (h0 : b0 ≤ 255) (h1 : b1 ≤ 255) (h2 : b2 ≤ 255) (h3 : b3 ≤ 255) (h : (Rn b0 b1 b2 b3 n).2.2 = 0) :
    Lib.decodeN n b0 b1 b2 b3 = ((Rn b0 b1 b2 b3 n).1.toNat, (Rn b0 b1 b2 b3 n).2.1.toNat) ∧ 1 ≤ (Rn b0 b1 b2 b3 n).2.1 ∧ (Rn b0 b1 b2 b3 n).2.1 ≤ n ∧ 0 ≤ (Rn b0 b1 b2 b3 n).1 ∧ (Rn b0 b1 b2 b3 n).1 ≤ 1114111 := by
  rw [Rn_ref _ _ _ _ _ (by omega) (by omega) (by omega)] at h ⊢
  by_cases c1 : (b0 : Int) < 128
  · rw [if_pos c1]
    simp only
    rw [Lib.decodeN, if_pos (by omega)]
    exact ⟨Prod.ext (by simp) (by simp), by omega, by omega, by omega, by omega⟩
  rw [if_neg c1] at h ⊢
  by_cases c2 : 2 ≤ (n : Int) ∧ 194 ≤ (b0 : Int) ∧ (b0 : Int) < 224 ∧ 128 ≤ (b1 : Int) ∧ (b1 : Int) < 192
  · rw [if_pos c2]
    simp only
    rw [Lib.decodeN, if_neg (by omega), if_pos (by omega), if_pos (by omega)]
    exact ⟨Prod.ext (by simp only; omega) (by simp), by omega, by omega, by omega, by omega⟩
  rw [if_neg c2] at h ⊢
  by_cases c3 : 3 ≤ (n : Int) ∧ 224 ≤ (b0 : Int) ∧ (b0 : Int) < 240 ∧ (128 ≤ (b1 : Int) ∧ (b1 : Int) < 192) ∧ ¬ ((b0 : Int) = 224 ∧ (b1 : Int) < 160 ∨ (b0 : Int) = 237 ∧ 160 ≤ (b1 : Int)) ∧ 128 ≤ (b2 : Int) ∧ (b2 : Int) < 192
  · rw [if_pos c3]
    simp only
    rw [Lib.decodeN, if_neg (by omega), if_neg (by omega), if_pos (by omega), if_pos (by omega)]
    exact ⟨Prod.ext (by simp only; omega) (by simp), by omega, by omega, by omega, by omega⟩
  rw [if_neg c3] at h ⊢
  by_cases c4 : 4 ≤ (n : Int) ∧ 240 ≤ (b0 : Int) ∧ (b0 : Int) < 245 ∧ (128 ≤ (b1 : Int) ∧ (b1 : Int) < 192) ∧ ¬ ((b0 : Int) = 240 ∧ (b1 : Int) < 144 ∨ (b0 : Int) = 244 ∧ 144 ≤ (b1 : Int)) ∧ (128 ≤ (b2 : Int) ∧ (b2 : Int) < 192) ∧ 128 ≤ (b3 : Int) ∧ (b3 : Int) < 192
  · rw [if_pos c4]
    simp only
    rw [Lib.decodeN, if_neg (by omega), if_neg (by omega), if_neg (by omega), if_pos (by omega), if_pos (by omega)]
    exact ⟨Prod.ext (by simp only; omega) (by simp), by omega, by omega, by omega, by omega⟩
  rw [if_neg c4] at h
  exfalso
  split at h <;> simp at h
/-- a rune that stands there is what Go's own loop over a text finds -/
theorem rune_dec (s : ByteArray) (i : Nat) (hi : i < s.size) (h : (runeAt s i).2.2 = 0) : Utf8.decode s i = ((runeAt s i).1.toNat, (runeAt s i).2.1.toNat) ∧ 1 ≤ (runeAt s i).2.1 ∧ (i : Int) + (runeAt s i).2.1 ≤ s.size ∧ 0 ≤ (runeAt s i).1 ∧ (runeAt s i).1 ≤ 1114111 := by
  have hb : ∀ j : Nat, (s.get! j).toNat ≤ 255 := fun j => by have := (s.get! j).toNat_lt; omega
  have e : runeAt s i = Rn ((s.get! i).toNat : Nat) ((s.get! (i + 1)).toNat : Nat) ((s.get! (i + 2)).toNat : Nat) ((s.get! (i + 3)).toNat : Nat) ((s.size - i : Nat) : Int) := by
    rw [runeAt, if_neg (by omega), bt_get, show (i : Int) + 1 = ((i + 1 : Nat) : Int) by omega, show (i : Int) + 2 = ((i + 2 : Nat) : Int) by omega, show (i : Int) + 3 = ((i + 3 : Nat) : Int) by omega, bt_get, bt_get, bt_get, show (s.size : Int) - i = ((s.size - i : Nat) : Int) by omega]
  rw [e] at h ⊢
  obtain ⟨r1, r2, r3, r4, r5⟩ := Rn_dec _ _ _ _ _ (by omega) (hb _) (hb _) (hb _) (hb _) h
  exact ⟨(Lib.decode_at s i).trans r1, r2, by omega, r4, r5⟩
/-- all runes of a text, from a place on; none: some bytes are no rune's -/
def runes (s : ByteArray) : Nat → Nat → Option (List Int)
  | 0, _ => some []
  | b + 1, i => if i < s.size then (if (runeAt s i).2.2 = 0 then (runes s b (i + (runeAt s i).2.1.toNat)).map ((runeAt s i).1 :: ·) else none) else some []
def charP (r : Int) : Prop := r = 9 ∨ r = 10 ∨ r = 13 ∨ (32 ≤ r ∧ r < 55296) ∨ (57344 ≤ r ∧ r ≤ 65533) ∨ (65536 ≤ r ∧ r ≤ 1114111)
/-- a text that may be -/
def okV (s : ByteArray) : Prop := ∃ l, runes s s.size 0 = some l ∧ ∀ x, x ∈ l → charP x
theorem refChar_tot (r : Int) : Tot (fun k _ _ => (lv k).orielref02_Char r) (fun b => b = true ↔ charP r) := by
  have bl : Tot (fun k _ _ => (lv k).orielref02_Blank r) (fun b => b = true ↔ r = 9 ∨ r = 10 ∨ r = 13 ∨ r = 32) := by
    refine orielref02_Blank_up _ (Tot.congr ?_ (fun k _ _ => orielref02_Blank_q (lv k) k r))
    refine Tot.cond (fun c => Tot.ret ?_) (fun c => Tot.cond (fun c' => Tot.ret ?_) (fun c' => Tot.cond (fun c'' => Tot.ret ?_) (fun c'' => Tot.ret ?_)))
    · have := eq_of_beq c; simp [this]
    · have := eq_of_beq c'; simp [this]
    · have := eq_of_beq c''; simp [this]
    · have h1 := ne_of_beq_false c; have h2 := ne_of_beq_false c'; have h3 := ne_of_beq_false c''
      rw [beq_iff_eq]; omega
  refine orielref02_Char_up _ (Tot.congr ?_ (fun k _ _ => orielref02_Char_q (lv k) k r))
  have last : ¬ r < 32 → ¬ (55296 ≤ r ∧ r < 57344) → Tot (fun _ _ _ => cond (r == (65534 : Int)) (some false) (cond (r == (65535 : Int)) (some false) (some (decide (r ≤ (1114111 : Int)))))) (fun b => b = true ↔ charP r) := fun h1 h2 => by
    refine Tot.cond (fun c => Tot.ret ?_) (fun c => Tot.cond (fun c' => Tot.ret ?_) (fun c' => Tot.ret ?_))
    · have := eq_of_beq c; unfold charP; simp; omega
    · have := eq_of_beq c'; unfold charP; simp; omega
    · have h3 := ne_of_beq_false c; have h4 := ne_of_beq_false c'
      unfold charP; rw [decide_eq_true_eq]; omega
  refine Tot.cond (fun c => Tot.bind bl fun b hb => Tot.ret ?_) (fun c => Tot.cond (fun c1 => Tot.cond (fun c2 => Tot.ret ?_) (fun c2 => last (of_decide_eq_false c) fun h => of_decide_eq_false c2 h.2)) (fun c1 => last (of_decide_eq_false c) fun h => of_decide_eq_false c1 h.1))
  · have c := of_decide_eq_true c
    rw [hb]; unfold charP; omega
  · have c1 := of_decide_eq_true c1; have c2 := of_decide_eq_true c2
    unfold charP; simp; omega
theorem in_tot (r : Int) (l : LL) (hl : l.length ≤ 100) : Tot (fun k _ _ => (lv k).char_in r l) (fun b => b = true ↔ ∃ i, i < l.length ∧ gi (l.getD i []) 0 ≤ r ∧ r ≤ gi (l.getD i []) 1) := by
  refine char_in_up _ _ (Tot.congr ?_ (fun k _ _ => char_in_q (lv k) k r l))
  refine Tot.in0 (Tot.loop (H := fun k x y v (_ : Unit) => char_in_l0 (lv k) k r l x v) (n := l.length) (fun i _ => ∀ j, j < i → ¬ (gi (l.getD j []) 0 ≤ r ∧ r ≤ gi (l.getD j []) 1)) (by omega) (fun _ h => ?_) (fun i _ hi h next => ?_) _ 0 () rfl (by omega) (fun j hj => by omega))
  · refine Tot.step0 (fun k p_ q_ => char_in_l0_q (lv k) k r l p_ _) ?_
    exact Tot.f (decide_eq_false (by omega)) (Tot.ret ⟨fun e => (by cases e), fun ⟨i, hi, hx⟩ => absurd hx (h i hi)⟩)
  · refine Tot.step0 (fun k p_ q_ => char_in_l0_q (lv k) k r l p_ _) ?_
    rw [Int.toNat_natCast]
    repeat (refine Tot.t (decide_eq_true (by omega)) ?_)
    refine Tot.cond (fun c => Tot.cond (fun c' => Tot.ret ⟨fun _ => ⟨i, hi, of_decide_eq_true c, of_decide_eq_true c'⟩, fun _ => rfl⟩) (fun c' => next () (fun j hj => ?_))) (fun c => next () (fun j hj => ?_))
    · rcases Nat.lt_or_ge j i with h2 | h2
      · exact h j h2
      · rw [show j = i by omega]; exact fun e => of_decide_eq_false c' e.2
    · rcases Nat.lt_or_ge j i with h2 | h2
      · exact h j h2
      · rw [show j = i by omega]; exact fun e => of_decide_eq_false c e.1
theorem char_tot' (r : Int) : Tot (fun k _ _ => (lv k).char_Char r) (fun b => b = true ↔ charP r) := by
  have bl : Tot (fun k _ _ => (lv k).char_Blank r) (fun b => b = true ↔ r = 9 ∨ r = 10 ∨ r = 13 ∨ r = 32) := by
    refine char_Blank_up _ (Tot.congr ?_ (fun k _ _ => char_Blank_q (lv k) k r))
    refine Tot.cond (fun c => Tot.t c (Tot.ret ?_)) (fun c => Tot.cond (fun c' => Tot.t c' (Tot.ret ?_)) (fun c' => Tot.cond (fun c'' => Tot.t c'' (Tot.ret ?_)) (fun c'' => Tot.cond (fun d => Tot.ret ?_) (fun d => Tot.ret ?_))))
    · have := eq_of_beq c; simp [this]
    · have := eq_of_beq c'; simp [this]
    · have := eq_of_beq c''; simp [this]
    · have := eq_of_beq d; simp [this]
    · have h1 := ne_of_beq_false c; have h2 := ne_of_beq_false c'; have h3 := ne_of_beq_false c''; have h4 := ne_of_beq_false d
      exact ⟨fun e => (by cases e), fun e => by omega⟩
  refine char_Char_up _ (Tot.congr ?_ (fun k _ _ => char_Char_q (lv k) k r))
  refine Tot.bind bl fun b hb => Tot.cond (fun c => Tot.ret ⟨fun _ => ?_, fun _ => rfl⟩) (fun c => Tot.bind (in_tot r _ (by decide)) fun b2 hb2 => Tot.ret ?_)
  · have := hb.1 c
    unfold charP; omega
  · have hn : ¬ (r = 9 ∨ r = 10 ∨ r = 13 ∨ r = 32) := fun h => by rw [hb.2 h] at c; cases c
    rw [hb2]
    constructor
    · rintro ⟨i, hi, h1, h2⟩
      rcases (show i = 0 ∨ i = 1 ∨ i = 2 by simp at hi; omega) with rfl | rfl | rfl
      · have h1 : (32 : Int) ≤ r := h1; have h2 : r ≤ (55295 : Int) := h2; unfold charP; omega
      · have h1 : (57344 : Int) ≤ r := h1; have h2 : r ≤ (65533 : Int) := h2; unfold charP; omega
      · have h1 : (65536 : Int) ≤ r := h1; have h2 : r ≤ (1114111 : Int) := h2; unfold charP; omega
    · intro h
      unfold charP at h
      rcases (show (32 ≤ r ∧ r ≤ 55295) ∨ (57344 ≤ r ∧ r ≤ 65533) ∨ (65536 ≤ r ∧ r ≤ 1114111) by omega) with h | h | h
      · exact ⟨0, by decide, h⟩
      · exact ⟨1, by decide, h⟩
      · exact ⟨2, by decide, h⟩
section
variable (s : ByteArray) (hz : s.size ≤ 1048576)
include hz
theorem utfAll_tot : Tot (fun k _ _ => (lv k).utf_All s) (fun r => r.2.2 = 0 ↔ ∃ l, runes s s.size 0 = some l) := by
  have loop : ∀ (b i : Nat) (v : LL), s.size - i ≤ b → i ≤ s.size → v.length ≤ i → Tot (fun k m m' => utf_All_l1 (lv k) k s m (i : Int) v) (fun r => r.2.2 = 0 ↔ ∃ l, runes s b i = some l) := by
    intro b
    induction b with
    | zero =>
      intro i v hb hi hv
      refine Tot.step0 (fun k p_ q_ => utf_All_l1_q (lv k) k s p_ (i : Int) v) ?_
      exact Tot.f (decide_eq_false (by omega)) (Tot.ret ⟨fun _ => ⟨_, rfl⟩, fun _ => rfl⟩)
    | succ b ih =>
      intro i v hb hi hv
      refine Tot.step0 (fun k p_ q_ => utf_All_l1_q (lv k) k s p_ (i : Int) v) ?_
      rw [runes]
      refine Tot.cond (fun c => ?_) (fun c => Tot.ret ?_)
      · have c := of_decide_eq_true c
        rw [if_pos (by omega)]
        refine Tot.bind (rune_in s i (by omega) c (by omega)) fun r hr => ?_
        subst hr
        refine Tot.cond (fun d => Tot.ret ?_) (fun d => ?_)
        · have d : (runeAt s i).2.2 ≠ 0 := by simpa using d
          rw [if_neg d]
          exact ⟨fun e => absurd e d, fun ⟨l, hl⟩ => by cases hl⟩
        · have d : (runeAt s i).2.2 = 0 := by simpa using d
          obtain ⟨_, r2, r3, _, _⟩ := rune_dec s i (by omega) d
          rw [if_pos d, wrap_id (x := (i : Int) + (runeAt s i).2.1) (by omega) (by omega), show (i : Int) + (runeAt s i).2.1 = ((i + (runeAt s i).2.1.toNat : Nat) : Int) by omega]
          refine Tot.t (roomy_of (by have : Try.prog.bytesOf 21 = 4 := by kernel_rfl
                                     omega) (by omega)) ((ih _ _ (by omega) (by omega) (by rw [List.length_append]; simp; omega)).mono fun r hr => hr.trans ?_)
          cases runes s b (i + (runeAt s i).2.1.toNat) with
          | none => exact ⟨fun ⟨_, e⟩ => (by cases e), fun ⟨_, e⟩ => by cases e⟩
          | some l => exact ⟨fun _ => ⟨_, rfl⟩, fun _ => ⟨_, rfl⟩⟩
      · rw [if_neg (by have := of_decide_eq_false c; omega)]
        exact ⟨fun _ => ⟨_, rfl⟩, fun _ => rfl⟩
  refine utf_All_up _ (Tot.congr ?_ (fun k _ _ => utf_All_q (lv k) k s))
  refine Tot.in0 (g := fun k m m' => utf_All_l0 (lv k) k s m) ?_
  refine Tot.step0 (fun k p_ q_ => utf_All_l0_q (lv k) k s p_ ) ?_
  have first := loop s.size 0 [] (by omega) (by omega) (by simp)
  refine Tot.cond (fun c => ?_) (fun c => Tot.ret ?_)
  · have c := of_decide_eq_true c
    obtain ⟨n, hn⟩ : ∃ n, s.size = n + 1 := ⟨s.size - 1, by omega⟩
    rw [hn, runes, if_pos (by omega)]
    refine Tot.bind (rune_in s 0 (by omega) c (by omega)) fun r hr => ?_
    subst hr
    refine Tot.cond (fun d => Tot.ret ?_) (fun d => ?_)
    · have d : (runeAt s ((0 : Nat) : Int)).2.2 ≠ 0 := by simpa using d
      rw [if_neg d]
      exact ⟨fun e => absurd e d, fun ⟨l, hl⟩ => by cases hl⟩
    · have d : (runeAt s ((0 : Nat) : Int)).2.2 = 0 := by simpa using d
      obtain ⟨_, r2, r3, _, _⟩ := rune_dec s 0 (by omega) d
      rw [if_pos d]
      have e0 : IntKind.i64.wrap (0 + (runeAt s 0).2.1) = ((0 + (runeAt s ((0 : Nat) : Int)).2.1.toNat : Nat) : Int) := by
        have r2' : 1 ≤ (runeAt s 0).2.1 := r2
        have r3' : (0 : Int) + (runeAt s 0).2.1 ≤ s.size := r3
        show IntKind.i64.wrap (0 + (runeAt s 0).2.1) = ((0 + (runeAt s 0).2.1.toNat : Nat) : Int)
        rw [wrap_id (by omega) (by omega)]; omega
      rw [e0]
      refine (loop n _ _ (by omega) (by omega) (by show 1 ≤ _; omega)).mono fun r hr => hr.trans ?_
      cases runes s n (0 + (runeAt s ((0 : Nat) : Int)).2.1.toNat) with
      | none => exact ⟨fun ⟨_, e⟩ => (by cases e), fun ⟨_, e⟩ => by cases e⟩
      | some l => exact ⟨fun _ => ⟨_, rfl⟩, fun _ => ⟨_, rfl⟩⟩
  · have c := of_decide_eq_false c
    rw [show s.size = 0 by omega]
    exact ⟨fun _ => ⟨_, rfl⟩, fun _ => rfl⟩
omit hz in
theorem runes_range : ∀ (b i : Nat) (l : List Int), runes s b i = some l → ∀ x, x ∈ l → 0 ≤ x ∧ x ≤ 1114111 := by
  intro b
  induction b with
  | zero => intro i l h x hx; cases h; cases hx
  | succ b ih =>
    intro i l h x hx
    rw [runes] at h
    by_cases c : i < s.size
    · rw [if_pos c] at h
      by_cases d : (runeAt s i).2.2 = 0
      · rw [if_pos d] at h
        obtain ⟨l', h1, rfl⟩ := Option.map_eq_some_iff.1 h
        rcases List.mem_cons.1 hx with rfl | hx
        · exact (rune_dec s i c d).2.2.2
        · exact ih _ _ h1 x hx
      · rw [if_neg d] at h; cases h
    · rw [if_neg c] at h; cases h; cases hx
theorem refAll_tot : Tot (fun k _ _ => (lv k).orielref01_All s) (fun r => (∀ l, runes s s.size 0 = some l → r.2.2 = 0 ∧ r.1 = l.map fun x => [C.int .i32 x]) ∧ (runes s s.size 0 = none → r.2.2 ≠ 0) ∧ r.1.length ≤ 1048576) := by
  have i32w : ∀ x : Int, 0 ≤ x → x ≤ 1114111 → IntKind.i32.wrap x = x := fun x h1 h2 => wraps_i32 x h1 (by omega)
  have loop : ∀ (b i : Nat) (v : LL), s.size - i ≤ b → i ≤ s.size → v.length ≤ i → Tot (fun k m m' => orielref01_All_l1 (lv k) k s m (i : Int) v) (fun r => (∀ l, runes s b i = some l → r.2.2 = 0 ∧ r.1 = v ++ l.map fun x => [C.int .i32 x]) ∧ (runes s b i = none → r.2.2 ≠ 0) ∧ r.1.length ≤ 1048576) := by
    intro b
    induction b with
    | zero =>
      intro i v hb hi hv
      refine Tot.step0 (fun k p_ q_ => orielref01_All_l1_q (lv k) k s p_ (i : Int) v) ?_
      exact Tot.f (decide_eq_false (by omega)) (Tot.ret ⟨fun l hl => ⟨rfl, by cases hl; simp⟩, fun h => (by cases h), by show v.length ≤ _; omega⟩)
    | succ b ih =>
      intro i v hb hi hv
      refine Tot.step0 (fun k p_ q_ => orielref01_All_l1_q (lv k) k s p_ (i : Int) v) ?_
      rw [runes]
      refine Tot.cond (fun c => ?_) (fun c => Tot.ret ?_)
      · have c := of_decide_eq_true c
        rw [if_pos (by omega)]
        refine Tot.bind (refRune_tot s i (by omega) c (by omega)) fun r hr => ?_
        refine Tot.cond (fun d => Tot.ret ?_) (fun d => ?_)
        · have d : r.2.2 ≠ 0 := by simpa using d
          have d' : (runeAt s i).2.2 ≠ 0 := fun h => d (by rw [hr.1 h]; exact h)
          rw [if_neg d']
          exact ⟨fun l hl => (by cases hl), fun _ => d, by show v.length ≤ _; omega⟩
        · have d : r.2.2 = 0 := by simpa using d
          have d' : (runeAt s i).2.2 = 0 := Classical.byContradiction fun h => hr.2 h d
          have e := hr.1 d'
          subst e
          obtain ⟨_, r2, r3, r4, r5⟩ := rune_dec s i (by omega) d'
          rw [if_pos d', wrap_id (x := (i : Int) + (runeAt s i).2.1) (by omega) (by omega), i32w _ r4 r5, show (i : Int) + (runeAt s i).2.1 = ((i + (runeAt s i).2.1.toNat : Nat) : Int) by omega]
          refine Tot.t (roomy_of (by have : Try.prog.bytesOf 21 = 4 := by kernel_rfl
                                     omega) (by omega)) ((ih _ _ (by omega) (by omega) (by rw [List.length_append]; simp; omega)).mono fun r hr => ?_)
          cases hx : runes s b (i + (runeAt s i).2.1.toNat) with
          | none => exact ⟨fun l hl => (by cases hl), fun _ => hr.2.1 hx, hr.2.2⟩
          | some l =>
            refine ⟨fun l' hl => ?_, fun h => (by cases h), hr.2.2⟩
            cases hl
            obtain ⟨q1, q2⟩ := hr.1 l hx
            exact ⟨q1, by rw [q2]; simp⟩
      · have c := of_decide_eq_false c
        rw [if_neg (by omega)]
        exact ⟨fun l hl => ⟨rfl, by cases hl; simp⟩, fun h => (by cases h), by show v.length ≤ _; omega⟩
  refine orielref01_All_up _ (Tot.congr ?_ (fun k _ _ => orielref01_All_q (lv k) k s))
  refine Tot.in0 (g := fun k m m' => orielref01_All_l0 (lv k) k s m) ?_
  refine Tot.step0 (fun k p_ q_ => orielref01_All_l0_q (lv k) k s p_ ) ?_
  refine Tot.cond (fun c => ?_) (fun c => Tot.ret ?_)
  · have c := of_decide_eq_true c
    obtain ⟨n, hn⟩ : ∃ n, s.size = n + 1 := ⟨s.size - 1, by omega⟩
    rw [hn, runes, if_pos (by omega)]
    refine Tot.bind (refRune_tot s 0 (by omega) c (by omega)) fun r hr => ?_
    refine Tot.cond (fun d => Tot.ret ?_) (fun d => ?_)
    · have d : r.2.2 ≠ 0 := by simpa using d
      have d' : (runeAt s ((0 : Nat) : Int)).2.2 ≠ 0 := fun h => d (by rw [hr.1 h]; exact h)
      rw [if_neg d']
      exact ⟨fun l hl => (by cases hl), fun _ => d, Nat.zero_le _⟩
    · have d : r.2.2 = 0 := by simpa using d
      have d' : (runeAt s ((0 : Nat) : Int)).2.2 = 0 := Classical.byContradiction fun h => hr.2 h d
      have e : r = runeAt s ((0 : Nat) : Int) := hr.1 d'
      subst e
      obtain ⟨_, r2, r3, r4, r5⟩ := rune_dec s 0 (by omega) d'
      rw [if_pos d', i32w _ r4 r5, show IntKind.i64.wrap (0 + (runeAt s ((0 : Nat) : Int)).2.1) = ((0 + (runeAt s ((0 : Nat) : Int)).2.1.toNat : Nat) : Int) by rw [wrap_id (by omega) (by omega)]; omega]
      refine (loop n _ _ (by omega) (by omega) (by show 1 ≤ _; omega)).mono fun r hr => ?_
      cases hx : runes s n (0 + (runeAt s ((0 : Nat) : Int)).2.1.toNat) with
      | none => exact ⟨fun l hl => (by cases hl), fun _ => hr.2.1 hx, hr.2.2⟩
      | some l =>
        refine ⟨fun l' hl => ?_, fun h => (by cases h), hr.2.2⟩
        cases hl
        obtain ⟨q1, q2⟩ := hr.1 l hx
        exact ⟨q1, by rw [q2]; simp⟩
  · have c := of_decide_eq_false c
    rw [show s.size = 0 by omega]
    exact ⟨fun l hl => ⟨rfl, by cases hl; rfl⟩, fun h => (by cases h), Nat.zero_le _⟩
/-- the document's Right: just a text that may be -/
theorem refRight_tot : Tot (fun k _ _ => (lv k).orielref04_Right s) (fun r => r = true ↔ okV s) := by
  refine orielref04_Right_up _ (Tot.congr ?_ (fun k _ _ => orielref04_Right_q (lv k) k s))
  refine Tot.bind (refAll_tot s hz) fun r ⟨h1, h2, h3⟩ => ?_
  refine Tot.in0 (Tot.loop (H := fun k x y v (_ : Unit) => orielref04_Right_l0 (lv k) k s x r.2.2 v r.1) (n := r.1.length) (fun i _ => ∀ l, runes s s.size 0 = some l → ∀ j, j < i → charP (l.getD j 0)) (by omega) (fun _ h => ?_) (fun i _ hi h next => ?_) _ 0 () rfl (by omega) (fun l _ j hj => by omega))
  · refine Tot.step0 (fun k p_ q_ => orielref04_Right_l0_q (lv k) k s p_ r.2.2 _ r.1) ?_
    refine Tot.f (decide_eq_false (by omega)) (Tot.ret ?_)
    rw [beq_iff_eq]
    constructor
    · intro e
      cases hx : runes s s.size 0 with
      | none => exact absurd e (h2 hx)
      | some l =>
        refine ⟨l, hx, fun x hm => ?_⟩
        obtain ⟨j, hj, rfl⟩ := List.getElem_of_mem hm
        have := h l hx j (by rw [(h1 l hx).2]; simpa using hj)
        rwa [List.getD_eq_getElem?_getD, List.getElem?_eq_getElem hj] at this
    · rintro ⟨l, hl, _⟩
      exact (h1 l hl).1
  · refine Tot.step0 (fun k p_ q_ => orielref04_Right_l0_q (lv k) k s p_ r.2.2 _ r.1) ?_
    rw [Int.toNat_natCast]
    repeat (refine Tot.t (decide_eq_true (by omega)) ?_)
    refine Tot.bind (refChar_tot _) fun r1 hr1 => Tot.cond (fun c => Tot.ret ⟨fun e => (by cases e), fun ⟨l, hl, hc⟩ => ?_⟩) (fun c => next () (fun l hl j hj => ?_))
    all_goals
      obtain ⟨e1, e2⟩ := h1 l hl
      have hi' : i < l.length := by rw [e2] at hi; simpa using hi
      have eg : gi (r.1.getD i []) 0 = l.getD i 0 := by
        rw [e2, List.getD_eq_getElem?_getD, List.getElem?_map, List.getElem?_eq_getElem hi', List.getD_eq_getElem?_getD, List.getElem?_eq_getElem hi']
        rfl
    · have hc' := hc _ (getD_mem (d := 0) hi')
      have : IntKind.i64.wrap (l.getD i 0) = l.getD i 0 := by unfold charP at hc'; rw [wrap_id (by omega) (by omega)]
      rw [eg, this] at hr1
      rw [hr1.2 hc'] at c
      cases c
    · rcases Nat.lt_or_ge j i with h4 | h4
      · exact h l hl j h4
      · have hji : j = i := by omega
        subst hji
        have hc := hr1.1 (by simpa using c)
        rw [eg] at hc
        have hw : IntKind.i64.wrap (l.getD j 0) = l.getD j 0 := by
          refine wrap_id ?_ ?_
          all_goals
            have := runes_range s s.size 0 l hl _ (getD_mem (d := 0) hi')
            omega
        rwa [hw] at hc
end
-- Nam
theorem bl_inj' {s : ByteArray} (h : s.size = 0) : s = ⟨#[]⟩ := by
  obtain ⟨d⟩ := s
  have h : d.size = 0 := h
  rw [Array.eq_empty_of_size_eq_zero h]
theorem aux_range (s : ByteArray) : ∀ (b i : Nat) (x : Int), x ∈ runesAux s b i → 0 ≤ x ∧ x ≤ 2147483647 := by
  intro b
  induction b with
  | zero => intro i x h; cases h
  | succ b ih =>
    intro i x h
    rw [runesAux] at h
    by_cases c : i < s.size
    · rw [if_pos c] at h
      rcases List.mem_cons.1 h with rfl | h
      · have := decode_le s i
        omega
      · exact ih _ _ h
    · rw [if_neg c] at h; cases h
def inP (r : Int) : LL → Prop
  | [] => False
  | x :: l => (gi x 0 ≤ r ∧ r ≤ gi x 1) ∨ inP r l
theorem ex_inP (r : Int) : ∀ l : LL, (∃ i, i < l.length ∧ gi (l.getD i []) 0 ≤ r ∧ r ≤ gi (l.getD i []) 1) ↔ inP r l := by
  intro l
  induction l with
  | nil => exact ⟨fun ⟨i, h, _⟩ => absurd h (Nat.not_lt_zero _), fun h => h.elim⟩
  | cons x l ih =>
    constructor
    · rintro ⟨i, hi, h⟩
      cases i with
      | zero => exact .inl h
      | succ i => exact .inr (ih.1 ⟨i, by simpa using hi, h⟩)
    · rintro (h | h)
      · exact ⟨0, by simp, h⟩
      · obtain ⟨i, hi, h⟩ := ih.2 h
        exact ⟨i + 1, by simpa using hi, h⟩
def startP (r : Int) : Prop := (65 ≤ r ∧ r ≤ 90) ∨ (97 ≤ r ∧ r ≤ 122) ∨ (95 ≤ r ∧ r ≤ 95) ∨ (192 ≤ r ∧ r ≤ 214) ∨ (216 ≤ r ∧ r ≤ 246) ∨ (248 ≤ r ∧ r ≤ 767) ∨ (880 ≤ r ∧ r ≤ 893) ∨ (895 ≤ r ∧ r ≤ 8191) ∨ (8204 ≤ r ∧ r ≤ 8205) ∨ (8304 ≤ r ∧ r ≤ 8591) ∨ (11264 ≤ r ∧ r ≤ 12271) ∨ (12289 ≤ r ∧ r ≤ 55295) ∨ (63744 ≤ r ∧ r ≤ 64975) ∨ (65008 ≤ r ∧ r ≤ 65533) ∨ (65536 ≤ r ∧ r ≤ 983039)
def partP (r : Int) : Prop := startP r ∨ (45 ≤ r ∧ r ≤ 46) ∨ (48 ≤ r ∧ r ≤ 57) ∨ (183 ≤ r ∧ r ≤ 183) ∨ (768 ≤ r ∧ r ≤ 879) ∨ (8255 ≤ r ∧ r ≤ 8256)
theorem pstart_tot (r : Int) : Tot (fun k _ _ => (lv k).char_Start r) (fun b => b = true ↔ startP r) := by
  refine char_Start_up _ (Tot.congr ?_ (fun k _ _ => char_Start_q (lv k) k r))
  refine Tot.bind (in_tot r _ (by decide)) fun b hb => Tot.ret ?_
  rw [hb, ex_inP]
  simp only [inP, or_false]
  exact Iff.rfl
theorem ppart_tot (r : Int) : Tot (fun k _ _ => (lv k).char_Part r) (fun b => b = true ↔ partP r) := by
  refine char_Part_up _ (Tot.congr ?_ (fun k _ _ => char_Part_q (lv k) k r))
  refine Tot.bind (pstart_tot r) fun b hb => Tot.cond (fun c => Tot.ret ⟨fun _ => .inl (hb.1 c), fun _ => rfl⟩) (fun c => Tot.bind (in_tot r _ (by decide)) fun b2 hb2 => Tot.ret ?_)
  have hn : ¬ startP r := fun h => by rw [hb.2 h] at c; cases c
  rw [hb2, ex_inP]
  simp only [inP, or_false]
  exact ⟨fun h => .inr h, fun h => h.resolve_left hn⟩
set_option maxRecDepth 100000 in
theorem rstart_tot (r : Int) : Tot (fun k _ _ => (lv k).orielref02_Start r) (fun b => b = true ↔ startP r) := by
  refine orielref02_Start_up _ (Tot.congr ?_ (fun k _ _ => orielref02_Start_q (lv k) k r))
  repeat' first
    | refine Tot.cond (fun _ => ?_) (fun _ => ?_)
    | refine Tot.ret ?_
  all_goals
    simp only [decide_eq_true_eq, decide_eq_false_iff_not, beq_iff_eq, beq_eq_false_iff_ne, ne_eq, true_iff, reduceCtorEq, false_iff, Bool.false_eq_true] at *
    unfold startP
    omega
set_option maxRecDepth 100000 in
theorem rpart_tot (r : Int) : Tot (fun k _ _ => (lv k).orielref02_Part r) (fun b => b = true ↔ partP r) := by
  refine orielref02_Part_up _ (Tot.congr ?_ (fun k _ _ => orielref02_Part_q (lv k) k r))
  refine Tot.bind (rstart_tot r) fun b hb => Tot.cond (fun c => Tot.ret ⟨fun _ => .inl (hb.1 c), fun _ => rfl⟩) (fun c => ?_)
  have hn : ¬ startP r := fun h => by rw [hb.2 h] at c; cases c
  have key : ∀ {q : Prop}, (q ↔ (45 ≤ r ∧ r ≤ 46) ∨ (48 ≤ r ∧ r ≤ 57) ∨ (183 ≤ r ∧ r ≤ 183) ∨ (768 ≤ r ∧ r ≤ 879) ∨ (8255 ≤ r ∧ r ≤ 8256)) → (q ↔ partP r) := fun h => h.trans ⟨fun h => .inr h, fun h => h.resolve_left hn⟩
  clear hn hb c
  repeat' first
    | refine Tot.cond (fun _ => ?_) (fun _ => ?_)
    | refine Tot.ret (key ?_)
  all_goals
    clear key
    simp only [decide_eq_true_eq, decide_eq_false_iff_not, beq_iff_eq, beq_eq_false_iff_ne, ne_eq, true_iff, reduceCtorEq, false_iff, Bool.false_eq_true] at *
    omega
section
variable (s : ByteArray) (hz : s.size ≤ 1048576)
include hz
omit hz in
theorem charAll_tot : ∀ (b i : Nat) (l : List Int), runes s b i = some l → s.size - i ≤ b → Tot (fun k m m' => char_All_l0 (lv k) k s m i) (fun r => r = true ↔ ∀ x, x ∈ l → charP x) := by
  intro b
  induction b with
  | zero =>
    intro i l h hb
    cases h
    refine Tot.step0 (fun k p_ q_ => char_All_l0_q (lv k) k s p_ i) ?_
    exact Tot.f (decide_eq_false (by omega)) (Tot.ret ⟨fun _ x hx => (by cases hx), fun _ => rfl⟩)
  | succ b ih =>
    intro i l h hb
    rw [runes] at h
    refine Tot.step0 (fun k p_ q_ => char_All_l0_q (lv k) k s p_ i) ?_
    refine Tot.cond (fun c => ?_) (fun c => ?_)
    · have c := of_decide_eq_true c
      rw [if_pos c] at h
      by_cases d : (runeAt s i).2.2 = 0
      · rw [if_pos d] at h
        obtain ⟨l', h1, rfl⟩ := Option.map_eq_some_iff.1 h
        obtain ⟨e, r2, r3, r4, r5⟩ := rune_dec s i c d
        rw [e]
        have er : (((runeAt s i).1.toNat : Nat) : Int) = (runeAt s i).1 := by omega
        show Tot (fun k m m' => char_All_l1 (lv k) k s m k (((runeAt s i).1.toNat : Nat) : Int) false 0 (i + (runeAt s i).2.1.toNat)) _
        rw [er]
        refine Tot.in1 (g := fun k m m' => char_All_l1 (lv k) k s m m' (runeAt s i).1 false 0 (i + (runeAt s i).2.1.toNat)) ?_
        refine Tot.step1 (fun k p_ q_ => char_All_l1_q (lv k) k s p_ q_ (runeAt s i).1 false 0 (i + (runeAt s i).2.1.toNat)) ?_
        refine Tot.t (by rfl) (Tot.t (by rfl) (Tot.f (by rfl) (Tot.bind (char_tot' _) fun r1 hr1 => ?_)))
        rw [show IntKind.i64.wrap ((0 : Int) + 1) = 1 from rfl]
        refine Tot.step1 (fun k p_ q_ => char_All_l1_q (lv k) k s p_ q_ (runeAt s i).1 r1 1 (i + (runeAt s i).2.1.toNat)) ?_
        refine Tot.f (by rfl) (Tot.cond (fun c1 => Tot.ret ⟨fun e => (by cases e), fun e => ?_⟩) (fun c1 => ?_))
        · rw [hr1.2 (e _ (List.mem_cons_self ..))] at c1; cases c1
        · have c1 : r1 = true := by simpa using c1
          refine (ih _ _ h1 (by omega)).mono fun r hr => hr.trans ⟨fun e x hx => ?_, fun e x hx => e x (List.mem_cons_of_mem _ hx)⟩
          rcases List.mem_cons.1 hx with rfl | hx
          · exact hr1.1 c1
          · exact e x hx
      · rw [if_neg d] at h; cases h
    · rw [if_neg (of_decide_eq_false c)] at h
      cases h
      exact Tot.ret ⟨fun _ x hx => (by cases hx), fun _ => rfl⟩
theorem value_tot' : Tot (fun k _ _ => (lv k).path_value s) (fun r => r = true ↔ okV s) := by
  refine path_value_up _ (Tot.congr ?_ (fun k _ _ => path_value_q (lv k) k s))
  refine Tot.bind (utfAll_tot s hz) fun r hr => Tot.cond (fun c => ?_) (fun c => Tot.ret ⟨fun e => (by cases e), fun ⟨l, hl, _⟩ => ?_⟩)
  · obtain ⟨l, hl⟩ := hr.1 (eq_of_beq c)
    refine Tot.bind (R := fun r => r = true ↔ ∀ x, x ∈ l → charP x) ?_ fun r2 hr2 => Tot.ret (hr2.trans ⟨fun e => ⟨l, hl, e⟩, fun ⟨l', hl', e⟩ => by rw [hl] at hl'; cases hl'; exact e⟩)
    refine char_All_up _ (Tot.congr ?_ (fun k _ _ => char_All_q (lv k) k s))
    exact Tot.in0 (charAll_tot s _ _ _ hl (by omega))
  · exact absurd (hr.2 ⟨l, hl⟩) (ne_of_beq_false c)
/-- a plain name -/
def plainP (s : ByteArray) : Prop := s.size ≠ 0 ∧ startP ((runesAux s s.size 0).getD 0 0) ∧ ∀ x, x ∈ runesAux s s.size 0 → partP x
theorem pplain_loop : ∀ (b i : Nat), 0 < i → s.size - i ≤ b → Tot (fun k m m' => name_Plain_l0 (lv k) k s m i) (fun r => r = true ↔ s.size ≠ 0 ∧ ∀ x, x ∈ runesAux s b i → partP x) := by
  have fin : Tot (fun _ _ _ => some (!(s.toList == (⟨#[]⟩ : ByteArray).toList))) (fun r => r = true ↔ s.size ≠ 0) := by
    refine Tot.ret ?_
    rw [Bool.not_eq_true', Bool.eq_false_iff, ne_eq, str_eq]
    constructor
    · intro h e
      apply h
      apply bl_inj'
      exact e
    · intro h e
      rw [e] at h
      exact h rfl
  intro b
  induction b with
  | zero =>
    intro i hi hb
    refine Tot.step0 (fun k p_ q_ => name_Plain_l0_q (lv k) k s p_ i) ?_
    exact Tot.f (decide_eq_false (by omega)) (fin.mono fun r hr => hr.trans ⟨fun e => ⟨e, fun x hx => (by cases hx)⟩, fun e => e.1⟩)
  | succ b ih =>
    intro i hi hb
    refine Tot.step0 (fun k p_ q_ => name_Plain_l0_q (lv k) k s p_ i) ?_
    rw [runesAux]
    refine Tot.cond (fun c => ?_) (fun c => ?_)
    · have c := of_decide_eq_true c
      have hw := Lib.decode_width_pos s i c
      rw [if_pos c]
      refine Tot.f (by rw [beq_eq_false_iff_ne]; omega) (Tot.bind (ppart_tot _) fun r3 hr3 => Tot.cond (fun d => Tot.ret ⟨fun e => (by cases e), fun e => ?_⟩) (fun d => ?_))
      · rw [hr3.2 (e.2 _ (List.mem_cons_self ..))] at d; cases d
      · have d : r3 = true := by simpa using d
        refine (ih _ (by omega) (by omega)).mono fun r hr => hr.trans ⟨fun e => ⟨e.1, fun x hx => ?_⟩, fun e => ⟨e.1, fun x hx => e.2 x (List.mem_cons_of_mem _ hx)⟩⟩
        rcases List.mem_cons.1 hx with rfl | hx
        · exact hr3.1 d
        · exact e.2 x hx
    · rw [if_neg (of_decide_eq_false c)]
      exact fin.mono fun r hr => hr.trans ⟨fun e => ⟨e, fun x hx => (by cases hx)⟩, fun e => e.1⟩
theorem pplain_tot : Tot (fun k _ _ => (lv k).name_Plain s) (fun r => r = true ↔ plainP s) := by
  refine name_Plain_up _ (Tot.congr ?_ (fun k _ _ => name_Plain_q (lv k) k s))
  refine Tot.in0 (g := fun k m m' => name_Plain_l0 (lv k) k s m 0) ?_
  refine Tot.step0 (fun k p_ q_ => name_Plain_l0_q (lv k) k s p_ 0) ?_
  unfold plainP
  refine Tot.cond (fun c => ?_) (fun c => ?_)
  · have c := of_decide_eq_true c
    have hw := Lib.decode_width_pos s 0 c
    obtain ⟨n, hn⟩ : ∃ n, s.size = n + 1 := ⟨s.size - 1, by omega⟩
    have er : runesAux s s.size 0 = ((Utf8.decode s 0).1 : Int) :: runesAux s n (0 + (Utf8.decode s 0).2) := by rw [hn, runesAux, if_pos c]
    rw [er]
    refine Tot.t (by rfl) (Tot.bind (pstart_tot _) fun r1 hr1 => Tot.cond (fun d => Tot.ret ⟨fun e => (by cases e), fun e => ?_⟩) (fun d => Tot.bind (ppart_tot _) fun r2 hr2 => Tot.cond (fun d2 => Tot.ret ⟨fun e => (by cases e), fun e => ?_⟩) (fun d2 => ?_)))
    · rw [hr1.2 e.2.1] at d; cases d
    · rw [hr2.2 (e.2.2 _ (List.mem_cons_self ..))] at d2; cases d2
    · have d : r1 = true := by simpa using d
      have d2 : r2 = true := by simpa using d2
      refine (pplain_loop s hz n _ (by omega) (by omega)).mono fun r hr => hr.trans ⟨fun e => ⟨e.1, hr1.1 d, fun x hx => ?_⟩, fun e => ⟨e.1, fun x hx => e.2.2 x (List.mem_cons_of_mem _ hx)⟩⟩
      rcases List.mem_cons.1 hx with rfl | hx
      · exact hr2.1 d2
      · exact e.2 x hx
  · have c := of_decide_eq_false c
    have e0 : s.size = 0 := by omega
    have es : s = ⟨#[]⟩ := bl_inj' e0
    refine Tot.ret ⟨fun e => ?_, fun e => absurd e0 e.1⟩
    rw [es, str_eq.2 rfl] at e
    cases e
theorem rplain_tot : Tot (fun k _ _ => (lv k).orielref03_Plain s) (fun r => r = true ↔ plainP s) := by
  have hl := len_runesRow s
  have hrow : ∀ i, i < (runesRow s).length → IntKind.i64.wrap (gi ((runesRow s).getD i []) 0) = (runesAux s s.size 0).getD i 0 := fun i hi => by
    have hi' : i < (runesAux s s.size 0).length := by simpa [runesRow] using hi
    have e : gi ((runesRow s).getD i []) 0 = (runesAux s s.size 0).getD i 0 := by
      unfold runesRow
      rw [List.getD_eq_getElem?_getD, List.getElem?_map, List.getElem?_eq_getElem hi', List.getD_eq_getElem?_getD, List.getElem?_eq_getElem hi']
      rfl
    rw [e]
    have := aux_range s _ _ _ (getD_mem (d := 0) hi')
    exact wrap_id (by omega) (by omega)
  have hlen : (runesRow s).length = (runesAux s s.size 0).length := by simp [runesRow]
  have h0 : (runesRow s).length = 0 ↔ s.size = 0 := by
    rw [hlen]
    constructor
    · intro h
      cases hs : s.size with
      | zero => rfl
      | succ n => rw [hs, runesAux, if_pos (by omega)] at h; cases h
    · intro h; rw [h]; rfl
  unfold plainP
  refine orielref03_Plain_up _ (Tot.congr ?_ (fun k _ _ => orielref03_Plain_q (lv k) k s))
  refine Tot.t (roomy_of (by have : Try.prog.bytesOf 21 = 4 := by kernel_rfl
                             omega) (by omega)) (Tot.cond (fun c => Tot.ret ⟨fun e => (by cases e), fun e => ?_⟩) (fun c => ?_))
  · exact absurd (h0.1 (by have := eq_of_beq c; omega)) e.1
  · have c : (runesRow s).length ≠ 0 := by have := ne_of_beq_false c; omega
    refine Tot.t (decide_eq_true (by omega)) ?_
    rw [hrow 0 (by omega)]
    refine Tot.bind (rstart_tot _) fun r1 hr1 => Tot.cond (fun d => Tot.ret ⟨fun e => (by cases e), fun e => ?_⟩) (fun d => ?_)
    · rw [hr1.2 e.2.1] at d; cases d
    · have d : r1 = true := by simpa using d
      refine Tot.in0 (Tot.loop (H := fun k x y v (_ : Unit) => orielref03_Plain_l0 (lv k) k s x v) (n := (runesRow s).length) (fun i _ => ∀ j, j < i → partP ((runesAux s s.size 0).getD j 0)) (by omega) (fun _ h => ?_) (fun i _ hi h next => ?_) _ 0 () rfl (by omega) (fun j hj => by omega))
      · refine Tot.step0 (fun k p_ q_ => orielref03_Plain_l0_q (lv k) k s p_ _) ?_
        refine Tot.f (decide_eq_false (by omega)) (Tot.ret ⟨fun _ => ⟨fun e => c (h0.2 e), hr1.1 d, fun x hx => ?_⟩, fun _ => rfl⟩)
        obtain ⟨j, hj, rfl⟩ := List.getElem_of_mem hx
        have := h j (by omega)
        rwa [List.getD_eq_getElem?_getD, List.getElem?_eq_getElem hj] at this
      · refine Tot.step0 (fun k p_ q_ => orielref03_Plain_l0_q (lv k) k s p_ _) ?_
        rw [Int.toNat_natCast, hrow i hi]
        repeat (refine Tot.t (decide_eq_true (by omega)) ?_)
        refine Tot.bind (rpart_tot _) fun r2 hr2 => Tot.cond (fun d2 => Tot.ret ⟨fun e => (by cases e), fun e => ?_⟩) (fun d2 => next () (fun j hj => ?_))
        · rw [hr2.2 (e.2.2 _ (getD_mem (d := 0) (by omega)))] at d2; cases d2
        · rcases Nat.lt_or_ge j i with h2 | h2
          · exact h j h2
          · rw [show j = i by omega]; exact hr2.1 (by simpa using d2)
end
-- Ok
def bl (a : ByteArray) : List UInt8 := a.data.toList
theorem bl_inj {a b : ByteArray} (h : bl a = bl b) : a = b := by
  cases a; cases b
  simp only [bl] at h
  congr 1
  exact Array.toList_inj.1 h
theorem bl_extract1 {s : ByteArray} {i : Nat} (h : i < s.size) : bl (s.extract i (i + 1)) = [s.data.getD i 0] := by
  have h' : i < s.data.size := h
  unfold bl
  rw [ByteArray.data_extract]
  simp only [Array.toList_extract, List.extract_eq_take_drop]
  rw [show i + 1 - i = 1 by omega, List.drop_eq_getElem_cons (by simpa using h')]
  simp [Array.getD, h, h']
def noB (s : ByteArray) (c : UInt8) : Prop := ∀ j, j < s.size → s.data.getD j 0 ≠ c
theorem find_iff (s : ByteArray) (c : UInt8) (hs : s.size ≤ 1048576) : Tot (fun k _ _ => (lv k).orielref05_Find s 0 ⟨#[c]⟩) (fun r => r < 0 ↔ noB s c) := by
  have hx : (⟨#[c]⟩ : ByteArray).size = 1 := rfl
  have one : ∀ j, j < s.size → (((s.extract j (j + 1)).toList == (⟨#[c]⟩ : ByteArray).toList) = true ↔ s.data.getD j 0 = c) := fun j hj => by
    rw [str_eq]
    constructor
    · intro e
      have h1 := bl_extract1 hj
      rw [e] at h1
      have h2 : [c] = [s.data.getD j 0] := h1
      exact ((List.cons.inj h2).1).symm
    · intro e
      apply bl_inj
      rw [bl_extract1 hj, e]
      rfl
  refine orielref05_Find_up _ _ _ (Tot.congr ?_ (fun k _ _ => orielref05_Find_q (lv k) k s 0 ⟨#[c]⟩))
  refine Tot.in0 (Tot.loop (H := fun k p q v (_ : Unit) => orielref05_Find_l0 (lv k) k s 0 ⟨#[c]⟩ p v) (n := s.size) (fun i _ => ∀ j, j < i → s.data.getD j 0 ≠ c) (by omega) (fun _ h => ?_) (fun i _ hi h next => ?_) _ 0 () rfl (by omega) (fun j hj => by omega))
  · refine Tot.step0 (fun k p_ q_ => orielref05_Find_l0_q (lv k) k s 0 ⟨#[c]⟩ p_ _) ?_
    rw [hx, wrap_id (x := (s.size : Int) + ((1 : Nat) : Int)) (by omega) (by omega)]
    exact Tot.f (decide_eq_false (by omega)) (Tot.ret ⟨fun _ => h, fun _ => by decide⟩)
  · refine Tot.step0 (fun k p_ q_ => orielref05_Find_l0_q (lv k) k s 0 ⟨#[c]⟩ p_ _) ?_
    rw [hx, wrap_id (x := (i : Int) + ((1 : Nat) : Int)) (by omega) (by omega)]
    repeat (refine Tot.t (decide_eq_true (by omega)) ?_)
    rw [show ((i : Int) + ((1 : Nat) : Int)).toNat = i + 1 by omega, Int.toNat_natCast]
    refine Tot.cond (fun d => Tot.ret ⟨fun e => by omega, fun e => absurd ((one i hi).1 d) (e i hi)⟩) (fun d => next () (fun j hj => ?_))
    rcases Nat.lt_or_ge j i with h2 | h2
    · exact h j h2
    · rw [show j = i by omega]
      intro e
      rw [(one i hi).2 e] at d
      cases d
def xmlns : ByteArray := ⟨#[104, 116, 116, 112, 58, 47, 47, 119, 119, 119, 46, 119, 51, 46, 111, 114, 103, 47, 50, 48, 48, 48, 47, 120, 109, 108, 110, 115, 47]⟩
/-- a name that may be -/
def NameQ (s t : ByteArray) : Prop := plainP t ∧ okV t ∧ okV s ∧ (noB s 123 ∧ noB s 125) ∧ s ≠ xmlns
theorem rnamed_iff (s t : ByteArray) (hs : s.size ≤ 1048576) (ht : t.size ≤ 1048576) : Tot (fun k _ _ => (lv k).orielref12_named s t) (fun r => r = true ↔ NameQ s t) := by
  have no : ¬ NameQ s t → Tot (fun _ _ _ => some false) (fun r => r = true ↔ NameQ s t) := fun h => Tot.ret ⟨fun e => (by cases e), fun e => absurd e h⟩
  refine orielref12_named_up _ _ (Tot.congr ?_ (fun k _ _ => orielref12_named_q (lv k) k s t))
  refine Tot.cond (fun c0 => Tot.bind (rplain_tot t ht) fun r1 h1 => Tot.cond (fun c1 => Tot.bind (refRight_tot t ht) fun r2 h2 => Tot.cond (fun c2 => Tot.bind (refRight_tot s hs) fun r3 h3 => Tot.cond (fun c3 => Tot.bind (find_iff s 123 hs) fun r4 h4 => Tot.cond (fun c4 => Tot.bind (find_iff s 125 hs) fun r5 h5 => Tot.ret ?_) (fun c4 => no fun h => ?_)) (fun c3 => no fun h => ?_)) (fun c2 => no fun h => ?_)) (fun c1 => no fun h => ?_)) (fun c0 => no fun h => ?_)
  · have hne : s ≠ xmlns := fun e => by
      rw [e] at c0
      rw [show (xmlns.toList == (⟨#[104, 116, 116, 112, 58, 47, 47, 119, 119, 119, 46, 119, 51, 46, 111, 114, 103, 47, 50, 48, 48, 48, 47, 120, 109, 108, 110, 115, 47]⟩ : ByteArray).toList) = true from str_eq.2 rfl] at c0
      cases c0
    rw [decide_eq_true_eq, h5]
    exact ⟨fun e => ⟨h1.1 c1, h2.1 c2, h3.1 c3, ⟨h4.1 (of_decide_eq_true c4), e⟩, hne⟩, fun e => e.2.2.2.1.2⟩
  · exact of_decide_eq_false c4 (h4.2 h.2.2.2.1.1)
  · rw [h3.2 h.2.2.1] at c3; cases c3
  · rw [h2.2 h.2.1] at c2; cases c2
  · rw [h1.2 h.1] at c1; cases c1
  · refine h.2.2.2.2 (str_eq.1 ?_)
    rw [Bool.not_eq_false'] at c0
    exact c0
def shP (a : List C) : Prop := 1 ≤ gi a 0 ∧ gi a 0 ≤ 7 ∧ (gi a 0 = 4 ∨ gi a 0 = 5 → 2 ≤ (gr a 1).length) ∧ (gi a 0 = 6 → (gr a 1).length = 1) ∧ (gi a 0 ≠ 4 → gi a 0 ≠ 5 → gi a 0 ≠ 6 → (gr a 1).length = 0) ∧ (gi a 0 = 7 ↔ (gr a 2).length = 1) ∧ (gr a 2).length ≤ 1 ∧ (gr a 1).length ≤ 64
def shF (a : List C) : Prop := (1 ≤ gi a 0 ∧ gi a 0 ≤ 11) ∧ (4 ≤ gi a 0 ∧ gi a 0 ≤ 6 → NameQ (gs a 1) (gs a 2)) ∧ (¬ (4 ≤ gi a 0 ∧ gi a 0 ≤ 6) → gs a 1 = ⟨#[]⟩ ∧ gs a 2 = ⟨#[]⟩) ∧ (gi a 0 ≠ 6 → gi a 0 ≠ 7 → gs a 3 = ⟨#[]⟩) ∧ (gi a 0 = 7 → gs a 3 ≠ ⟨#[]⟩) ∧ okV (gs a 3) ∧
  (gi a 0 = 8 → (gr a 4).length = 1) ∧ (gi a 0 = 9 ∨ gi a 0 = 10 → 2 ≤ (gr a 4).length) ∧ (gi a 0 ≠ 8 → gi a 0 ≠ 9 → gi a 0 ≠ 10 → (gr a 4).length = 0) ∧ (gi a 0 = 11 ↔ (gr a 5).length = 1) ∧ (gr a 5).length ≤ 1 ∧ (gr a 4).length ≤ 64
def okR : Nat → Bool → List C → Prop
  | 0, _, _ => False
  | d + 1, true, a => shP a ∧ (∀ i, i < (gr a 1).length → okR d true ((gr a 1).getD i [])) ∧ (∀ i, i < (gr a 2).length → okR d false ((gr a 2).getD i []))
  | d + 1, false, a => shF a ∧ (∀ i, i < (gr a 4).length → okR d false ((gr a 4).getD i [])) ∧ (∀ i, i < (gr a 5).length → okR d true ((gr a 5).getD i []))
theorem rright_iff : ∀ d : Nat, d ≤ 100 →
    (∀ (a : List C), SmR BB a → Tot (fun k _ _ => (lv k).orielref12_path (gi a 0) (gr a 1) (gr a 2) d) (fun r => r = true ↔ okR d true a)) ∧
    (∀ (a : List C), SmR BB a → Tot (fun k _ _ => (lv k).orielref12_filter (gi a 0) (gs a 1) (gs a 2) (gs a 3) (gr a 4) (gr a 5) d) (fun r => r = true ↔ okR d false a)) := by
  intro d
  induction d with
  | zero =>
    intro _
    constructor
    · intro a _
      refine orielref12_path_up _ _ _ _ (Tot.congr ?_ (fun k _ _ => orielref12_path_q (lv k) k (gi a 0) (gr a 1) (gr a 2) ((0 : Nat) : Int)))
      exact Tot.t (by rfl) (Tot.ret ⟨fun h => (by cases h), fun h => h.elim⟩)
    · intro a _
      refine orielref12_filter_up _ _ _ _ _ _ _ (Tot.congr ?_ (fun k _ _ => orielref12_filter_q (lv k) k (gi a 0) (gs a 1) (gs a 2) (gs a 3) (gr a 4) (gr a 5) ((0 : Nat) : Int)))
      exact Tot.t (by rfl) (Tot.ret ⟨fun h => (by cases h), fun h => h.elim⟩)
  | succ d ih =>
    intro hd
    have ih := ih (by omega)
    have hw : IntKind.i64.wrap (((d + 1 : Nat) : Int) - 1) = d := by rw [wrap_id (by omega) (by omega)]; omega
    have hne : (((d + 1 : Nat) : Int) == (0 : Int)) = false := by rw [beq_eq_false_iff_ne]; omega
    have iff_of : ∀ {x y m n : Int} {b : Bool}, (!((x == m) == (y == n))) = b → (b = false ↔ (x = m ↔ y = n)) := fun {x y m n b} h => by
      subst h
      rw [Bool.not_eq_false', beq_iff_eq, ← beq_iff_eq (a := x), ← beq_iff_eq (a := y)]
      exact Bool.eq_iff_iff
    constructor
    · intro a ha
      have hl1 : (gr a 1).length ≤ 1048576 := (ha.gr 1).1
      have hl2 : (gr a 2).length ≤ 1048576 := (ha.gr 2).1
      have no : ¬ okR (d + 1) true a → Tot (fun _ _ _ => some false) (fun r => r = true ↔ okR (d + 1) true a) := fun h => Tot.ret ⟨fun e => (by cases e), fun e => absurd e h⟩
      refine orielref12_path_up _ _ _ _ (Tot.congr ?_ (fun k _ _ => orielref12_path_q (lv k) k (gi a 0) (gr a 1) (gr a 2) ((d + 1 : Nat) : Int)))
      have key : ∀ v1 v2 : Int, (shP a ↔ (1 ≤ gi a 0 ∧ gi a 0 ≤ 7) ∧ (v1 ≤ (gr a 1).length ∧ (gr a 1).length ≤ v2) ∧ (gi a 0 = 7 ↔ ((gr a 2).length : Int) = 1) ∧ (gr a 2).length ≤ 1) → (1 ≤ gi a 0 ∧ gi a 0 ≤ 7) → Tot (fun k x y => orielref12_path_l0 (lv k) k (gi a 0) (gr a 1) (gr a 2) ((d + 1 : Nat) : Int) v1 v2) (fun r => r = true ↔ okR (d + 1) true a) := by
        intro v1 v2 hsh hop
        refine Tot.congr ?_ (fun k p_ q_ => orielref12_path_l0_q (lv k) k (gi a 0) (gr a 1) (gr a 2) ((d + 1 : Nat) : Int) v1 v2 )
        refine Tot.cond (fun g => no fun h => ?_) (fun g1 => Tot.cond (fun g => no fun h => ?_) (fun g2 => Tot.cond (fun g => no fun h => ?_) (fun g3 => Tot.cond (fun g => no fun h => ?_) (fun g4 => ?_))))
        · have := (hsh.1 h.1).2.1.1; have := of_decide_eq_true g; omega
        · have := (hsh.1 h.1).2.1.2; have := of_decide_eq_true g; omega
        · have h1 := (iff_of g).2 (hsh.1 h.1).2.2.1; cases h1
        · have := (hsh.1 h.1).2.2.2; have := of_decide_eq_true g; omega
        have g1 := of_decide_eq_false g1
        have g2 := of_decide_eq_false g2
        have g4 := of_decide_eq_false g4
        have g3 := (iff_of g3).1 rfl
        have sh : shP a := hsh.2 ⟨hop, by omega, g3, by omega⟩
        refine Tot.in0 (Tot.loop (H := fun k x y v (_ : Unit) => orielref12_path_l1 (lv k) k (gi a 0) (gr a 1) (gr a 2) ((d + 1 : Nat) : Int) x v) (n := (gr a 1).length) (fun i _ => ∀ j, j < i → okR d true ((gr a 1).getD j [])) (by omega) (fun _ h => ?_) (fun i _ hi h next => ?_) _ 0 () rfl (by omega) (fun j hj => by omega))
        · refine Tot.step0 (fun k p_ q_ => orielref12_path_l1_q (lv k) k (gi a 0) (gr a 1) (gr a 2) ((d + 1 : Nat) : Int) p_ _) ?_
          refine Tot.f (decide_eq_false (by omega)) (Tot.cond (fun ht0 => ?_) (fun ht0 => ?_))
          · have ht0 : (gr a 2).length = 0 := by simpa using ht0
            exact Tot.ret ⟨fun _ => ⟨sh, h, fun j h => by omega⟩, fun _ => rfl⟩
          · have ht0 : (gr a 2).length ≠ 0 := by simpa using ht0
            refine Tot.t (decide_eq_true (by omega)) ?_
            rw [hw]
            refine Tot.bind (ih.2 _ ((ha.gr 2).get 0)) fun r hr => Tot.ret (hr.trans ⟨fun hb => ⟨sh, h, fun j hj => ?_⟩, fun hb => hb.2.2 0 (by omega)⟩)
            rw [show j = 0 by omega]
            exact hb
        · refine Tot.step0 (fun k p_ q_ => orielref12_path_l1_q (lv k) k (gi a 0) (gr a 1) (gr a 2) ((d + 1 : Nat) : Int) p_ _) ?_
          rw [hw, Int.toNat_natCast]
          repeat (refine Tot.t (decide_eq_true (by omega)) ?_)
          refine Tot.bind (ih.1 _ ((ha.gr 1).get i)) fun r hr1 => Tot.cond (fun hb => no fun hk => ?_) (fun hb => next () (fun j hj => ?_))
          · rw [hr1.2 (hk.2.1 i hi)] at hb; cases hb
          · have hb : r = true := by simpa using hb
            rcases Nat.lt_or_ge j i with h2 | h2
            · exact h j h2
            · rw [show j = i by omega]; exact hr1.1 hb
      refine Tot.f hne (Tot.cond (fun g => no fun h => by have := h.1.1; have := of_decide_eq_true g; omega) (fun g1 => Tot.cond (fun g => no fun h => by have := h.1.2.1; have := of_decide_eq_true g; omega) (fun g7 => ?_)))
      have g1 := of_decide_eq_false g1
      have g7 := of_decide_eq_false g7
      refine Tot.cond (fun h4 => ?_) (fun h4 => Tot.cond (fun h5 => ?_) (fun h5 => Tot.cond (fun h6 => ?_) (fun h6 => ?_)))
      · have h4 : gi a 0 = 4 := by simpa using h4
        exact Tot.f (by rw [beq_eq_false_iff_ne]; omega) (key 2 64 (by unfold shP; omega) (by omega))
      · have h5 : gi a 0 = 5 := by simpa using h5
        exact Tot.f (by rw [beq_eq_false_iff_ne]; omega) (key 2 64 (by unfold shP; omega) (by omega))
      · have h6 : gi a 0 = 6 := by simpa using h6
        exact key 1 1 (by unfold shP; omega) (by omega)
      · have h4 : gi a 0 ≠ 4 := by simpa using h4
        have h5 : gi a 0 ≠ 5 := by simpa using h5
        have h6 : gi a 0 ≠ 6 := by simpa using h6
        exact key 0 0 (by unfold shP; omega) (by omega)
    · intro a ha
      have hl1 : (gr a 4).length ≤ 1048576 := (ha.gr 4).1
      have hl2 : (gr a 5).length ≤ 1048576 := (ha.gr 5).1
      have no : ¬ okR (d + 1) false a → Tot (fun _ _ _ => some false) (fun r => r = true ↔ okR (d + 1) false a) := fun h => Tot.ret ⟨fun e => (by cases e), fun e => absurd e h⟩
      refine orielref12_filter_up _ _ _ _ _ _ _ (Tot.congr ?_ (fun k _ _ => orielref12_filter_q (lv k) k (gi a 0) (gs a 1) (gs a 2) (gs a 3) (gr a 4) (gr a 5) ((d + 1 : Nat) : Int)))
      refine Tot.f hne (Tot.cond (fun g => no fun h => by have := h.1.1.1; have := of_decide_eq_true g; omega) (fun h1 => Tot.cond (fun g => no fun h => by have := h.1.1.2; have := of_decide_eq_true g; omega) (fun h11 => ?_)))
      have h1 := of_decide_eq_false h1
      have h11 := of_decide_eq_false h11
      have l3 : ∀ v1 v2 : Int, (shF a ↔ (v1 ≤ (gr a 4).length ∧ (gr a 4).length ≤ v2) ∧ (gi a 0 = 11 ↔ ((gr a 5).length : Int) = 1) ∧ (gr a 5).length ≤ 1) → Tot (fun k x y => orielref12_filter_l3 (lv k) k (gi a 0) (gs a 1) (gs a 2) (gs a 3) (gr a 4) (gr a 5) ((d + 1 : Nat) : Int) v1 v2) (fun r => r = true ↔ okR (d + 1) false a) := by
        intro v1 v2 hsh
        refine Tot.congr ?_ (fun k p_ q_ => orielref12_filter_l3_q (lv k) k (gi a 0) (gs a 1) (gs a 2) (gs a 3) (gr a 4) (gr a 5) ((d + 1 : Nat) : Int) v1 v2 )
        refine Tot.cond (fun g => no fun h => ?_) (fun g1 => Tot.cond (fun g => no fun h => ?_) (fun g2 => Tot.cond (fun g => no fun h => ?_) (fun g3 => Tot.cond (fun g => no fun h => ?_) (fun g4 => ?_))))
        · have := (hsh.1 h.1).1.1; have := of_decide_eq_true g; omega
        · have := (hsh.1 h.1).1.2; have := of_decide_eq_true g; omega
        · have h1 := (iff_of g).2 (hsh.1 h.1).2.1; cases h1
        · have := (hsh.1 h.1).2.2; have := of_decide_eq_true g; omega
        have g1 := of_decide_eq_false g1
        have g2 := of_decide_eq_false g2
        have g4 := of_decide_eq_false g4
        have g3 := (iff_of g3).1 rfl
        have sh : shF a := hsh.2 ⟨by omega, g3, by omega⟩
        refine Tot.in0 (Tot.loop (H := fun k x y v (_ : Unit) => orielref12_filter_l4 (lv k) k (gi a 0) (gs a 1) (gs a 2) (gs a 3) (gr a 4) (gr a 5) ((d + 1 : Nat) : Int) x v) (n := (gr a 4).length) (fun i _ => ∀ j, j < i → okR d false ((gr a 4).getD j [])) (by omega) (fun _ h => ?_) (fun i _ hi h next => ?_) _ 0 () rfl (by omega) (fun j hj => by omega))
        · refine Tot.step0 (fun k p_ q_ => orielref12_filter_l4_q (lv k) k (gi a 0) (gs a 1) (gs a 2) (gs a 3) (gr a 4) (gr a 5) ((d + 1 : Nat) : Int) p_ _) ?_
          refine Tot.f (decide_eq_false (by omega)) (Tot.cond (fun ht0 => ?_) (fun ht0 => ?_))
          · have ht0 : (gr a 5).length = 0 := by simpa using ht0
            exact Tot.ret ⟨fun _ => ⟨sh, h, fun j h => by omega⟩, fun _ => rfl⟩
          · have ht0 : (gr a 5).length ≠ 0 := by simpa using ht0
            refine Tot.t (decide_eq_true (by omega)) ?_
            rw [hw]
            refine Tot.bind (ih.1 _ ((ha.gr 5).get 0)) fun r hr => Tot.ret (hr.trans ⟨fun hb => ⟨sh, h, fun j hj => ?_⟩, fun hb => hb.2.2 0 (by omega)⟩)
            rw [show j = 0 by omega]
            exact hb
        · refine Tot.step0 (fun k p_ q_ => orielref12_filter_l4_q (lv k) k (gi a 0) (gs a 1) (gs a 2) (gs a 3) (gr a 4) (gr a 5) ((d + 1 : Nat) : Int) p_ _) ?_
          rw [hw, Int.toNat_natCast]
          repeat (refine Tot.t (decide_eq_true (by omega)) ?_)
          refine Tot.bind (ih.2 _ ((ha.gr 4).get i)) fun r hr1 => Tot.cond (fun hb => no fun hk => ?_) (fun hb => next () (fun j hj => ?_))
          · rw [hr1.2 (hk.2.1 i hi)] at hb; cases hb
          · have hb : r = true := by simpa using hb
            rcases Nat.lt_or_ge j i with h2 | h2
            · exact h j h2
            · rw [show j = i by omega]; exact hr1.1 hb
      -- names and values hold: what is left is the parts' numbers
      let NV : Prop := (4 ≤ gi a 0 ∧ gi a 0 ≤ 6 → NameQ (gs a 1) (gs a 2)) ∧ (¬ (4 ≤ gi a 0 ∧ gi a 0 ≤ 6) → gs a 1 = ⟨#[]⟩ ∧ gs a 2 = ⟨#[]⟩) ∧ (gi a 0 ≠ 6 → gi a 0 ≠ 7 → gs a 3 = ⟨#[]⟩) ∧ (gi a 0 = 7 → gs a 3 ≠ ⟨#[]⟩) ∧ okV (gs a 3)
      have nv_of : okR (d + 1) false a → NV := fun h => ⟨h.1.2.1, h.1.2.2.1, h.1.2.2.2.1, h.1.2.2.2.2.1, h.1.2.2.2.2.2.1⟩
      have e8 : NV → Tot (fun k x y => cond (gi a 0 == (8 : Int)) (orielref12_filter_l2 (lv k) k (gi a 0) (gs a 1) (gs a 2) (gs a 3) (gr a 4) (gr a 5) ((d + 1 : Nat) : Int) 1 1) (orielref12_filter_l2 (lv k) k (gi a 0) (gs a 1) (gs a 2) (gs a 3) (gr a 4) (gr a 5) ((d + 1 : Nat) : Int) 0 0)) (fun r => r = true ↔ okR (d + 1) false a) := fun nv => by
        have hn : ∀ v1 v2 : Int, ((gi a 0 = 8 → (gr a 4).length = 1) ∧ (gi a 0 = 9 ∨ gi a 0 = 10 → 2 ≤ (gr a 4).length) ∧ (gi a 0 ≠ 8 → gi a 0 ≠ 9 → gi a 0 ≠ 10 → (gr a 4).length = 0) ∧ (gr a 4).length ≤ 64 ↔ v1 ≤ (gr a 4).length ∧ (gr a 4).length ≤ v2) → (shF a ↔ (v1 ≤ (gr a 4).length ∧ (gr a 4).length ≤ v2) ∧ (gi a 0 = 11 ↔ ((gr a 5).length : Int) = 1) ∧ (gr a 5).length ≤ 1) := fun v1 v2 h => by
          constructor
          · intro sf
            obtain ⟨_, _, _, _, _, _, q1, q2, q3, q4, q5, q6⟩ := sf
            exact ⟨h.1 ⟨q1, q2, q3, q6⟩, by omega, q5⟩
          · rintro ⟨q1, q2, q3⟩
            obtain ⟨w1, w2, w3, w4⟩ := h.2 q1
            exact ⟨by omega, nv.1, nv.2.1, nv.2.2.1, nv.2.2.2.1, nv.2.2.2.2, w1, w2, w3, by omega, q3, w4⟩
        refine Tot.cond (fun h8 => ?_) (fun h8 => ?_)
        · have h8 : gi a 0 = 8 := by simpa using h8
          refine Tot.congr ?_ (fun k p_ q_ => orielref12_filter_l2_q (lv k) k (gi a 0) (gs a 1) (gs a 2) (gs a 3) (gr a 4) (gr a 5) ((d + 1 : Nat) : Int) 1 1 )
          exact Tot.f (by rw [beq_eq_false_iff_ne]; omega) (Tot.f (by rw [beq_eq_false_iff_ne]; omega) (l3 1 1 (hn 1 1 (by omega))))
        · have h8 : gi a 0 ≠ 8 := by simpa using h8
          refine Tot.congr ?_ (fun k p_ q_ => orielref12_filter_l2_q (lv k) k (gi a 0) (gs a 1) (gs a 2) (gs a 3) (gr a 4) (gr a 5) ((d + 1 : Nat) : Int) 0 0 )
          refine Tot.cond (fun h9 => ?_) (fun h9 => Tot.cond (fun h10 => ?_) (fun h10 => ?_))
          · have h9 : gi a 0 = 9 := by simpa using h9
            exact l3 2 64 (hn 2 64 (by omega))
          · have h10 : gi a 0 = 10 := by simpa using h10
            exact l3 2 64 (hn 2 64 (by omega))
          · have h9 : gi a 0 ≠ 9 := by simpa using h9
            have h10 : gi a 0 ≠ 10 := by simpa using h10
            exact l3 0 0 (hn 0 0 (by omega))
      have l1 : ∀ v1, (v1 = true ↔ gi a 0 = 6 ∨ gi a 0 = 7) → (4 ≤ gi a 0 ∧ gi a 0 ≤ 6 → NameQ (gs a 1) (gs a 2)) → (¬ (4 ≤ gi a 0 ∧ gi a 0 ≤ 6) → gs a 1 = ⟨#[]⟩ ∧ gs a 2 = ⟨#[]⟩) → Tot (fun k x y => orielref12_filter_l1 (lv k) k (gi a 0) (gs a 1) (gs a 2) (gs a 3) (gr a 4) (gr a 5) ((d + 1 : Nat) : Int) v1) (fun r => r = true ↔ okR (d + 1) false a) := fun v1 e1 n1 n2 => by
        have val : (gi a 0 ≠ 6 → gi a 0 ≠ 7 → gs a 3 = ⟨#[]⟩) → (gi a 0 = 7 → gs a 3 ≠ ⟨#[]⟩) → Tot (fun k x y => ((lv k).orielref04_Right (gs a 3)).bind fun r1 => cond (!r1) (some false) (cond (gi a 0 == (8 : Int)) (orielref12_filter_l2 (lv k) k (gi a 0) (gs a 1) (gs a 2) (gs a 3) (gr a 4) (gr a 5) ((d + 1 : Nat) : Int) 1 1) (orielref12_filter_l2 (lv k) k (gi a 0) (gs a 1) (gs a 2) (gs a 3) (gr a 4) (gr a 5) ((d + 1 : Nat) : Int) 0 0))) (fun r => r = true ↔ okR (d + 1) false a) := fun q1 q2 =>
          Tot.bind (refRight_tot _ (ha.gs 3)) fun r hr => Tot.cond (fun c => no fun h => by rw [hr.2 (nv_of h).2.2.2.2] at c; cases c) (fun c => e8 ⟨n1, n2, q1, q2, hr.1 (by simpa using c)⟩)
        have rest : (gi a 0 ≠ 6 → gi a 0 ≠ 7 → gs a 3 = ⟨#[]⟩) → Tot (fun k x y => cond (gi a 0 == (7 : Int)) (cond ((gs a 3).toList == (⟨#[]⟩ : ByteArray).toList) (some false) (((lv k).orielref04_Right (gs a 3)).bind fun r1 => cond (!r1) (some false) (cond (gi a 0 == (8 : Int)) (orielref12_filter_l2 (lv k) k (gi a 0) (gs a 1) (gs a 2) (gs a 3) (gr a 4) (gr a 5) ((d + 1 : Nat) : Int) 1 1) (orielref12_filter_l2 (lv k) k (gi a 0) (gs a 1) (gs a 2) (gs a 3) (gr a 4) (gr a 5) ((d + 1 : Nat) : Int) 0 0)))) (((lv k).orielref04_Right (gs a 3)).bind fun r2 => cond (!r2) (some false) (cond (gi a 0 == (8 : Int)) (orielref12_filter_l2 (lv k) k (gi a 0) (gs a 1) (gs a 2) (gs a 3) (gr a 4) (gr a 5) ((d + 1 : Nat) : Int) 1 1) (orielref12_filter_l2 (lv k) k (gi a 0) (gs a 1) (gs a 2) (gs a 3) (gr a 4) (gr a 5) ((d + 1 : Nat) : Int) 0 0)))) (fun r => r = true ↔ okR (d + 1) false a) := fun q1 =>
          Tot.cond (fun c7 => Tot.cond (fun ce => no fun h => (nv_of h).2.2.2.1 (by simpa using c7) (str_eq.1 ce)) (fun ce => val q1 fun _ e => by rw [e, str_eq.2 rfl] at ce; cases ce)) (fun c7 => val q1 fun e => absurd e (by simpa using c7))
        refine Tot.congr ?_ (fun k p_ q_ => orielref12_filter_l1_q (lv k) k (gi a 0) (gs a 1) (gs a 2) (gs a 3) (gr a 4) (gr a 5) ((d + 1 : Nat) : Int) v1 )
        refine Tot.cond (fun c1 => Tot.cond (fun c2 => no fun h => ?_) (fun c2 => rest fun _ _ => str_eq.1 (by simpa using c2))) (fun c1 => rest fun h6 h7 => ?_)
        · have hv : ¬ (gi a 0 = 6 ∨ gi a 0 = 7) := fun e => by rw [e1.2 e] at c1; cases c1
          have := (nv_of h).2.2.1 (fun e => hv (.inl e)) (fun e => hv (.inr e))
          rw [this, str_eq.2 rfl] at c2
          cases c2
        · have := e1.1 (by simpa using c1); omega
      have l0 : ∀ v1 v2, (v1 = true ↔ 4 ≤ gi a 0 ∧ gi a 0 ≤ 6) → (v2 = true ↔ gi a 0 = 6 ∨ gi a 0 = 7) → Tot (fun k x y => orielref12_filter_l0 (lv k) k (gi a 0) (gs a 1) (gs a 2) (gs a 3) (gr a 4) (gr a 5) ((d + 1 : Nat) : Int) v1 v2) (fun r => r = true ↔ okR (d + 1) false a) := fun v1 v2 e1 e2 => by
        have hemp : ((gs a 1 == (⟨#[]⟩ : ByteArray)) && ((gs a 2 == (⟨#[]⟩ : ByteArray)) && true)) = true ↔ gs a 1 = ⟨#[]⟩ ∧ gs a 2 = ⟨#[]⟩ := name_eq
        have hpl : NameQ (gs a 1) (gs a 2) → gs a 2 ≠ ⟨#[]⟩ := fun h e => by
          have := h.1.1
          rw [e] at this
          exact this rfl
        refine Tot.congr ?_ (fun k p_ q_ => orielref12_filter_l0_q (lv k) k (gi a 0) (gs a 1) (gs a 2) (gs a 3) (gr a 4) (gr a 5) ((d + 1 : Nat) : Int) v1 v2 )
        refine Tot.cond (fun c0 => no fun h => ?_) (fun c0 => Tot.cond (fun c1 => Tot.bind (rnamed_iff _ _ (ha.gs 1) (ha.gs 2)) fun r hr => Tot.cond (fun c2 => no fun h => ?_) (fun c2 => ?_)) (fun c1 => ?_))
        · obtain ⟨q1, q2, _⟩ := nv_of h
          cases hv : v1 with
          | true =>
            have hn := hpl (q1 (e1.1 hv))
            have : ((gs a 1 == (⟨#[]⟩ : ByteArray)) && ((gs a 2 == (⟨#[]⟩ : ByteArray)) && true)) = false := by
              rw [Bool.eq_false_iff]
              exact fun e => hn (hemp.1 e).2
            rw [hv, this] at c0
            cases c0
          | false =>
            have : ((gs a 1 == (⟨#[]⟩ : ByteArray)) && ((gs a 2 == (⟨#[]⟩ : ByteArray)) && true)) = true := hemp.2 (q2 fun e => by rw [e1.2 e] at hv; cases hv)
            rw [hv, this] at c0
            cases c0
        · rw [hr.2 ((nv_of h).1 (e1.1 c1))] at c2; cases c2
        · exact l1 v2 e2 (fun _ => hr.1 (by simpa using c2)) (fun h => absurd (e1.1 c1) h)
        · refine l1 v2 e2 (fun h => by rw [e1.2 h] at c1; cases c1) (fun _ => hemp.1 ?_)
          rw [c1] at c0
          simpa using c0
      refine Tot.cond (fun h4 => ?_) (fun h4 => ?_)
      · have h4 := of_decide_eq_true h4
        refine Tot.cond (fun h6 => l0 _ _ ?_ ?_) (fun h6 => l0 _ _ ?_ ?_)
        · rw [decide_eq_true_eq]; omega
        · have := eq_of_beq h6; exact ⟨fun _ => .inl this, fun _ => rfl⟩
        · rw [decide_eq_true_eq]; omega
        · have := ne_of_beq_false h6
          rw [beq_iff_eq]
          omega
      · have h4 := of_decide_eq_false h4
        refine Tot.cond (fun h6 => l0 _ _ ?_ ?_) (fun h6 => l0 _ _ ?_ ?_)
        · have := eq_of_beq h6; omega
        · have := eq_of_beq h6; exact ⟨fun _ => .inl this, fun _ => rfl⟩
        · exact ⟨fun e => (by cases e), fun e => by omega⟩
        · have := ne_of_beq_false h6
          rw [beq_iff_eq]
          omega
-- Meas
theorem okV_empty : okV ⟨#[]⟩ := ⟨[], rfl, fun x hx => by cases hx⟩
theorem take_le (f : List C → Nat) (l : List (List C)) (m : Nat) : ((l.take m).map f).sum ≤ (l.map f).sum := by
  have := List.take_append_drop m (l.map f)
  have h4 : (l.map f).sum = ((l.map f).take m).sum + ((l.map f).drop m).sum := by rw [← List.sum_append, this]
  rw [List.map_take]
  omega
theorem sum_len (f : List C → Nat) (hf : ∀ x, 1 ≤ f x) : ∀ l : List (List C), l.length ≤ (l.map f).sum := by
  intro l
  induction l with
  | nil => exact Nat.le_refl _
  | cons x l ih => have := hf x; simp only [List.length_cons, List.map_cons, List.sum_cons]; omega
theorem sz_pos (d : Nat) (k : Bool) (a : List C) : 1 ≤ sz d k a := by
  cases d with
  | zero => cases k <;> exact Nat.le_refl _
  | succ d => cases k <;> (simp only [sz]; omega)
theorem sh_alone {a : List C} (h64 : (gr a 4).length ≤ 64) (h : gi a 0 ≠ 4 ∧ gi a 0 ≠ 5 ∧ gi a 0 ≠ 6 ∧ gi a 0 ≠ 7) : shF a ↔ (1 ≤ gi a 0 ∧ gi a 0 ≤ 11) ∧ ((gs a 1 = ⟨#[]⟩ ∧ gs a 2 = ⟨#[]⟩) ∧ gs a 3 = ⟨#[]⟩) ∧ (gi a 0 = 8 → (gr a 4).length = 1) ∧ (gi a 0 = 9 ∨ gi a 0 = 10 → 2 ≤ (gr a 4).length) ∧ (gi a 0 ≠ 8 → gi a 0 ≠ 9 → gi a 0 ≠ 10 → (gr a 4).length = 0) ∧ (gi a 0 = 11 ↔ (gr a 5).length = 1) ∧ (gr a 5).length ≤ 1 := by
  constructor
  · rintro ⟨q0, q1, q2, q3, q4, q5, q6, q7, q8, q9, q10, q11⟩
    exact ⟨q0, ⟨q2 (by omega), q3 h.2.2.1 h.2.2.2⟩, q6, q7, q8, q9, q10⟩
  · rintro ⟨q0, ⟨q2, q3⟩, q6, q7, q8, q9, q10⟩
    exact ⟨q0, fun e => by omega, fun _ => q2, fun _ _ => q3, fun e => absurd e h.2.2.2, by rw [q3]; exact okV_empty, q6, q7, q8, q9, q10, h64⟩
theorem sh_named {a : List C} (h : gi a 0 = 4 ∨ gi a 0 = 5) : shF a ↔ NameQ (gs a 1) (gs a 2) ∧ gs a 3 = ⟨#[]⟩ ∧ (gr a 4).length = 0 ∧ (gr a 5).length = 0 := by
  constructor
  · rintro ⟨q0, q1, q2, q3, q4, q5, q6, q7, q8, q9, q10, q11⟩
    exact ⟨q1 (by omega), q3 (by omega) (by omega), q8 (by omega) (by omega) (by omega), by omega⟩
  · rintro ⟨q1, q3, q8, q9⟩
    exact ⟨by omega, fun _ => q1, fun e => by omega, fun _ _ => q3, fun e => by omega, by rw [q3]; exact okV_empty, fun e => by omega, fun e => by omega, fun _ _ _ => q8, by omega, by omega, by omega⟩
theorem sh_is {a : List C} (h : gi a 0 = 6) : shF a ↔ NameQ (gs a 1) (gs a 2) ∧ okV (gs a 3) ∧ (gr a 4).length = 0 ∧ (gr a 5).length = 0 := by
  constructor
  · rintro ⟨q0, q1, q2, q3, q4, q5, q6, q7, q8, q9, q10, q11⟩
    exact ⟨q1 (by omega), q5, q8 (by omega) (by omega) (by omega), by omega⟩
  · rintro ⟨q1, q5, q8, q9⟩
    exact ⟨by omega, fun _ => q1, fun e => by omega, fun e _ => absurd h e, fun e => by omega, q5, fun e => by omega, fun e => by omega, fun _ _ _ => q8, by omega, by omega, by omega⟩
theorem sh_text {a : List C} (h : gi a 0 = 7) : shF a ↔ (gs a 1 = ⟨#[]⟩ ∧ gs a 2 = ⟨#[]⟩) ∧ gs a 3 ≠ ⟨#[]⟩ ∧ okV (gs a 3) ∧ (gr a 4).length = 0 ∧ (gr a 5).length = 0 := by
  constructor
  · rintro ⟨q0, q1, q2, q3, q4, q5, q6, q7, q8, q9, q10, q11⟩
    exact ⟨q2 (by omega), q4 h, q5, q8 (by omega) (by omega) (by omega), by omega⟩
  · rintro ⟨q2, q4, q5, q8, q9⟩
    exact ⟨by omega, fun e => by omega, fun _ => q2, fun _ e => absurd h e, fun _ => q4, q5, fun e => by omega, fun e => by omega, fun _ _ _ => q8, by omega, by omega, by omega⟩
theorem T2 {x y c e : Nat} : Tot (fun _ _ _ => cond ((x : Int) == (c : Int)) (some ((y : Int) == (e : Int))) (some false)) (fun r => r = true ↔ x = c ∧ y = e) := by
  refine Tot.cond (fun h => Tot.ret ?_) (fun h => Tot.ret ⟨fun e => (by cases e), fun e => ?_⟩)
  · have := eq_of_beq h
    rw [beq_iff_eq]
    omega
  · exact absurd (by omega : (x : Int) = c) (ne_of_beq_false h)
theorem T2g {x y : Nat} : Tot (fun _ _ _ => cond (decide ((x : Int) ≥ (2 : Int))) (some ((y : Int) == (0 : Int))) (some false)) (fun r => r = true ↔ 2 ≤ x ∧ y = 0) := by
  refine Tot.cond (fun h => Tot.ret ?_) (fun h => Tot.ret ⟨fun e => (by cases e), fun e => ?_⟩)
  · have := of_decide_eq_true h
    rw [beq_iff_eq]
    omega
  · exact absurd (by omega : (x : Int) ≥ 2) (of_decide_eq_false h)
section
variable (hN : ∀ s t : ByteArray, s.size ≤ 1048576 → t.size ≤ 1048576 → Tot (fun k _ _ => (lv k).path_named s t) (fun r => r = true ↔ NameQ s t))
include hN
theorem shape_iff (a : List C) (ha : SmR BB a) (h64 : (gr a 4).length ≤ 64) : Tot (fun k _ _ => (lv k).path_shape (gi a 0) (gs a 1) (gs a 2) (gs a 3) (gr a 4) (gr a 5)) (fun r => r = true ↔ shF a) := by
  have hemp : ((gs a 1 == (⟨#[]⟩ : ByteArray)) && ((gs a 2 == (⟨#[]⟩ : ByteArray)) && true)) = true ↔ gs a 1 = ⟨#[]⟩ ∧ gs a 2 = ⟨#[]⟩ := name_eq
  have and : ∀ {g : Nat → Nat → Nat → Option Bool} {b : Bool} {p q : Prop}, (b = true ↔ p) → Tot g (fun r => r = true ↔ q) → Tot (fun n x y => cond b (g n x y) (some false)) (fun r => r = true ↔ p ∧ q) := fun hb h =>
    Tot.cond (fun c => h.mono fun r hr => hr.trans ⟨fun e => ⟨hb.1 c, e⟩, fun e => e.2⟩) (fun c => Tot.ret ⟨fun e => (by cases e), fun e => by rw [hb.2 e.1] at c; cases c⟩)
  have iff : ∀ {g : Nat → Nat → Nat → Option Bool} {p q : Prop}, (p ↔ q) → Tot g (fun r => r = true ↔ p) → Tot g (fun r => r = true ↔ q) := fun h t => t.mono fun r hr => hr.trans h
  have lit : ∀ {x y : Int} {b : Bool}, (x == y) = b → b = decide (x = y) := fun {x y b} h => by
    rw [← h]
    rfl
  have l0 : ∀ v1 : Bool, (v1 = true ↔ (gs a 1 = ⟨#[]⟩ ∧ gs a 2 = ⟨#[]⟩) ∧ gs a 3 = ⟨#[]⟩) → Tot (fun k x y => path_shape_l0 (lv k) k (gi a 0) (gs a 1) (gs a 2) (gs a 3) (gr a 4) (gr a 5) v1) (fun r => r = true ↔ shF a) := fun v1 hv => by
    have alone0 : gi a 0 = 1 ∨ gi a 0 = 2 ∨ gi a 0 = 3 → Tot (fun _ _ _ => cond v1 (cond (((gr a 4).length : Int) == (0 : Int)) (some (((gr a 5).length : Int) == (0 : Int))) (some false)) (some false)) (fun r => r = true ↔ shF a) := fun e => iff ((sh_alone h64 (by omega)).trans ⟨fun q => ⟨q.2.1, q.2.2.2.2.1 (by omega) (by omega) (by omega), by omega⟩, fun q => ⟨by omega, q.1, by omega, by omega, by omega, by omega, by omega⟩⟩).symm (and hv (T2 (c := 0) (e := 0)))
    have l2 : gi a 0 ≠ 1 → gi a 0 ≠ 2 → gi a 0 ≠ 3 → gi a 0 ≠ 4 → gi a 0 ≠ 5 → Tot (fun k x y => path_shape_l2 (lv k) k (gi a 0) (gs a 1) (gs a 2) (gs a 3) (gr a 4) (gr a 5) v1) (fun r => r = true ↔ shF a) := fun n1 n2 n3 n4 n5 => by
      refine Tot.congr ?_ (fun k p_ q_ => path_shape_l2_q (lv k) k (gi a 0) (gs a 1) (gs a 2) (gs a 3) (gr a 4) (gr a 5) v1 )
      have none11 : gi a 0 ≠ 6 → gi a 0 ≠ 7 → gi a 0 ≠ 8 → gi a 0 ≠ 9 → gi a 0 ≠ 10 → Tot (fun _ _ _ => cond (gi a 0 == (11 : Int)) (cond v1 (cond (((gr a 4).length : Int) == (0 : Int)) (some (((gr a 5).length : Int) == (1 : Int))) (some false)) (some false)) (some false)) (fun r => r = true ↔ shF a) := fun n6 n7 n8 n9 n10 =>
        Tot.cond (fun c => by
          have c := eq_of_beq c
          exact iff ((sh_alone h64 (by omega)).trans ⟨fun q => ⟨q.2.1, q.2.2.2.2.1 (by omega) (by omega) (by omega), by omega⟩, fun q => ⟨by omega, q.1, by omega, by omega, by omega, by omega, by omega⟩⟩).symm (and hv (T2 (c := 0) (e := 1)))) (fun c => Tot.ret ⟨fun e => (by cases e), fun e => by have := e.1; have := ne_of_beq_false c; omega⟩)
      refine Tot.cond (fun c => ?_) (fun c => Tot.cond (fun c' => ?_) (fun c' => Tot.cond (fun c'' => ?_) (fun c'' => Tot.cond (fun d => Tot.t d ?_) (fun d => Tot.cond (fun d' => ?_) (fun d' => ?_)))))
      · have c := eq_of_beq c
        exact iff (sh_is c).symm (Tot.bind (hN _ _ (ha.gs 1) (ha.gs 2)) fun r hr => and hr (Tot.bind (value_tot' _ (ha.gs 3)) fun r2 hr2 => and hr2 (T2 (c := 0) (e := 0))))
      · have c' := eq_of_beq c'
        exact iff (sh_text c').symm (and hemp (and (by rw [Bool.not_eq_true', Bool.eq_false_iff, ne_eq, str_eq]) (Tot.bind (value_tot' _ (ha.gs 3)) fun r2 hr2 => and hr2 (T2 (c := 0) (e := 0)))))
      · have c'' := eq_of_beq c''
        exact iff ((sh_alone h64 (by omega)).trans ⟨fun q => ⟨q.2.1, q.2.2.1 c'', by omega⟩, fun q => ⟨by omega, q.1, by omega, by omega, by omega, by omega, by omega⟩⟩).symm (and hv (T2 (c := 1) (e := 0)))
      · have d := eq_of_beq d
        exact iff ((sh_alone h64 (by omega)).trans ⟨fun q => ⟨q.2.1, q.2.2.2.1 (by omega), by omega⟩, fun q => ⟨by omega, q.1, by omega, by omega, by omega, by omega, by omega⟩⟩).symm (and hv T2g)
      · have d' := eq_of_beq d'
        exact iff ((sh_alone h64 (by omega)).trans ⟨fun q => ⟨q.2.1, q.2.2.2.1 (by omega), by omega⟩, fun q => ⟨by omega, q.1, by omega, by omega, by omega, by omega, by omega⟩⟩).symm (and hv T2g)
      · exact none11 (ne_of_beq_false c) (ne_of_beq_false c') (ne_of_beq_false c'') (ne_of_beq_false d) (ne_of_beq_false d')
    have l1 : gi a 0 ≠ 1 → gi a 0 ≠ 2 → gi a 0 ≠ 3 → Tot (fun k x y => path_shape_l1 (lv k) k (gi a 0) (gs a 1) (gs a 2) (gs a 3) (gr a 4) (gr a 5) v1) (fun r => r = true ↔ shF a) := fun n1 n2 n3 => by
      have nm : gi a 0 = 4 ∨ gi a 0 = 5 → Tot (fun k x y => ((lv k).path_named (gs a 1) (gs a 2)).bind fun r1 => cond r1 (cond ((gs a 3).toList == (⟨#[]⟩ : ByteArray).toList) (cond (((gr a 4).length : Int) == (0 : Int)) (some (((gr a 5).length : Int) == (0 : Int))) (some false)) (some false)) (some false)) (fun r => r = true ↔ shF a) := fun e =>
        iff (sh_named e).symm (Tot.bind (hN _ _ (ha.gs 1) (ha.gs 2)) fun r hr => and hr (and str_eq (T2 (c := 0) (e := 0))))
      refine Tot.congr ?_ (fun k p_ q_ => path_shape_l1_q (lv k) k (gi a 0) (gs a 1) (gs a 2) (gs a 3) (gr a 4) (gr a 5) v1 )
      refine Tot.cond (fun c => Tot.t c (nm (.inl (eq_of_beq c)))) (fun c => Tot.cond (fun c' => nm (.inr (eq_of_beq c'))) (fun c' => l2 n1 n2 n3 (ne_of_beq_false c) (ne_of_beq_false c')))
    refine Tot.congr ?_ (fun k p_ q_ => path_shape_l0_q (lv k) k (gi a 0) (gs a 1) (gs a 2) (gs a 3) (gr a 4) (gr a 5) v1 )
    refine Tot.cond (fun c => Tot.t c (alone0 (.inl (eq_of_beq c)))) (fun c => Tot.cond (fun c' => Tot.t c' (alone0 (.inr (.inl (eq_of_beq c'))))) (fun c' => Tot.cond (fun c'' => alone0 (.inr (.inr (eq_of_beq c'')))) (fun c'' => l1 (ne_of_beq_false c) (ne_of_beq_false c') (ne_of_beq_false c''))))
  refine path_shape_up _ _ _ _ _ _ (Tot.congr ?_ (fun k _ _ => path_shape_q (lv k) k (gi a 0) (gs a 1) (gs a 2) (gs a 3) (gr a 4) (gr a 5)))
  refine Tot.cond (fun c => l0 _ ?_) (fun c => l0 _ ?_)
  · rw [str_eq]
    exact ⟨fun e => ⟨hemp.1 c, e⟩, fun e => e.2⟩
  · exact ⟨fun e => (by cases e), fun e => by rw [hemp.2 e.1] at c; cases c⟩
end
-- Mes
/-- what a measure tells: whether it is right; if so, how many parts -/
def MQ (d : Nat) (k : Bool) (a : List C) (n : Int) (r : Int × Bool) : Prop := (r.2 = true ↔ okR d k a) ∧ (r.2 = true → r.1 = n + sz d k a)
theorem MQ.no {d : Nat} {k : Bool} {a : List C} {n m : Int} (h : ¬ okR d k a) : MQ d k a n (m, false) := ⟨⟨fun e => (by cases e), fun e => absurd e h⟩, fun e => by cases e⟩
theorem part_yes (n deep : Int) (h0 : 0 ≤ n) (h1 : n + 1 ≤ 64) : Tot (fun k _ _ => (lv k).path_measure_part n true deep) (fun r => r = (decide (deep < 16), n + 1, decide (deep < 16))) := by
  refine path_measure_part_up _ _ _ (Tot.congr ?_ (fun k _ _ => path_measure_part_q (lv k) k n true deep))
  rw [wrap_id (x := n + 1) (by omega) (by omega)]
  exact Tot.t rfl (Tot.t (decide_eq_true (by omega)) (Tot.ret rfl))
section
variable (hN : ∀ s t : ByteArray, s.size ≤ 1048576 → t.size ≤ 1048576 → Tot (fun k _ _ => (lv k).path_named s t) (fun r => r = true ↔ NameQ s t))
include hN
theorem measure_iff : ∀ d : Nat, d ≤ 16 →
    (∀ (a : List C) (n deep : Int), SmR BB a → 0 ≤ n → n + sz d true a ≤ 64 → deep = 16 - d → Tot (fun k _ _ => (lv k).path_measure_path n true (gi a 0) (gr a 1) (gr a 2) deep) (MQ d true a n)) ∧
    (∀ (a : List C) (n deep : Int), SmR BB a → 0 ≤ n → n + sz d false a ≤ 64 → deep = 16 - d → Tot (fun k _ _ => (lv k).path_measure_filter n true (gi a 0) (gs a 1) (gs a 2) (gs a 3) (gr a 4) (gr a 5) deep) (MQ d false a n)) := by
  intro d
  induction d with
  | zero =>
    intro _
    constructor
    · intro a n deep ha h0 hz hd
      have := sz_pos 0 true a
      refine path_measure_path_up _ _ _ _ _ _ (Tot.congr ?_ (fun k _ _ => path_measure_path_q (lv k) k n true (gi a 0) (gr a 1) (gr a 2) deep))
      refine Tot.bind (part_yes n deep h0 (by omega)) fun r hr => ?_
      subst hr
      exact Tot.t (by rw [decide_eq_false (by omega)]; rfl) (Tot.ret (by rw [decide_eq_false (by omega)]; exact MQ.no fun h => h.elim))
    · intro a n deep ha h0 hz hd
      have := sz_pos 0 false a
      refine path_measure_filter_up _ _ _ _ _ _ _ _ _ (Tot.congr ?_ (fun k _ _ => path_measure_filter_q (lv k) k n true (gi a 0) (gs a 1) (gs a 2) (gs a 3) (gr a 4) (gr a 5) deep))
      refine Tot.bind (part_yes n deep h0 (by omega)) fun r hr => ?_
      subst hr
      exact Tot.t (by rw [decide_eq_false (by omega)]; rfl) (Tot.ret (by rw [decide_eq_false (by omega)]; exact MQ.no fun h => h.elim))
  | succ d ih =>
    intro hd16
    have ih := ih (by omega)
    constructor
    · intro a n deep ha h0 hz hd
      have hl1 : (gr a 1).length ≤ 1048576 := (ha.gr 1).1
      have hl2 : (gr a 2).length ≤ 1048576 := (ha.gr 2).1
      have esz : sz (d + 1) true a = 1 + ((gr a 1).map (sz d true)).sum + ((gr a 2).map (sz d false)).sum := rfl
      have hs1 := sum_len (sz d true) (sz_pos d true) (gr a 1)
      have hwd : IntKind.i64.wrap (deep + 1) = deep + 1 := wrap_id (by omega) (by omega)
      -- tests
      have f3 : ∀ (m : Int) (i : Nat), i ≤ (gr a 2).length → ¬ okR (d + 1) true a → Tot (fun k p q => path_measure_path_l3 (lv k) k n true (gi a 0) (gr a 1) (gr a 2) deep p (i : Int) m false) (MQ (d + 1) true a n) := fun m i hi hno => by
        refine Tot.step0 (fun k p_ q_ => path_measure_path_l3_q (lv k) k n true (gi a 0) (gr a 1) (gr a 2) deep p_ (i : Int) m false) ?_
        exact Tot.cond (fun _ => Tot.f rfl (Tot.ret (MQ.no hno))) (fun _ => Tot.ret (MQ.no hno))
      have f2 : ∀ (m : Int) (i : Nat), i ≤ (gr a 1).length → ¬ okR (d + 1) true a → Tot (fun k p q => path_measure_path_l2 (lv k) k n true (gi a 0) (gr a 1) (gr a 2) deep p (i : Int) m false) (MQ (d + 1) true a n) := fun m i hi hno => by
        refine Tot.step0 (fun k p_ q_ => path_measure_path_l2_q (lv k) k n true (gi a 0) (gr a 1) (gr a 2) deep p_ (i : Int) m false) ?_
        have e := Tot.in0 (g := fun k p q => path_measure_path_l3 (lv k) k n true (gi a 0) (gr a 1) (gr a 2) deep p ((0 : Nat) : Int) m false) (f3 m 0 (by omega) hno)
        exact Tot.cond (fun _ => Tot.f rfl e) (fun _ => e)
      have t3 : shP a → (∀ i, i < (gr a 1).length → okR d true ((gr a 1).getD i [])) → Tot (fun k p q => path_measure_path_l3 (lv k) k n true (gi a 0) (gr a 1) (gr a 2) deep p 0 (n + 1 + (((gr a 1).map (sz d true)).sum : Int)) true) (MQ (d + 1) true a n) := fun sh hs => by
        refine Tot.loop (H := fun k p q v (w : Int) => path_measure_path_l3 (lv k) k n true (gi a 0) (gr a 1) (gr a 2) deep p v w true) (n := (gr a 2).length) (fun i w => (∀ j, j < i → okR d false ((gr a 2).getD j [])) ∧ w = n + 1 + (((gr a 1).map (sz d true)).sum : Int) + ((((gr a 2).take i).map (sz d false)).sum : Int)) (by omega) (fun w h => ?_) (fun i w hi h next => ?_) _ 0 _ rfl (by omega) ⟨fun j hj => by omega, by simp⟩
        · refine Tot.step0 (fun k p_ q_ => path_measure_path_l3_q (lv k) k n true (gi a 0) (gr a 1) (gr a 2) deep p_ _ w true) ?_
          refine Tot.f (decide_eq_false (by omega)) (Tot.ret ⟨⟨fun _ => ⟨sh, hs, h.1⟩, fun _ => rfl⟩, fun _ => ?_⟩)
          have := h.2
          rw [List.take_length] at this
          show w = _
          omega
        · refine Tot.step0 (fun k p_ q_ => path_measure_path_l3_q (lv k) k n true (gi a 0) (gr a 1) (gr a 2) deep p_ _ w true) ?_
          rw [Int.toNat_natCast, hwd]
          refine Tot.t (decide_eq_true (by omega)) (Tot.t rfl ?_)
          repeat (refine Tot.t (decide_eq_true (by omega)) ?_)
          have hst := sum_take (gr a 2) (sz d false) i [] hi
          have hle := take_le (sz d false) (gr a 2) (i + 1)
          refine Tot.bind (ih.2 _ w (deep + 1) ((ha.gr 2).get i) (by have := h.2; omega) (by have := h.2; omega) (by omega)) fun r hr => ?_
          obtain ⟨rn, rb⟩ := r
          cases rb with
          | false =>
            have hno : ¬ okR (d + 1) true a := fun hk => by have := hr.1.2 (hk.2.2 i hi); cases this
            rw [wrap_id (x := (i : Int) + 1) (by omega) (by omega), show (i : Int) + 1 = ((i + 1 : Nat) : Int) by omega]
            exact f3 rn (i + 1) (by omega) hno
          | true =>
            refine next rn ⟨fun j hj => ?_, ?_⟩
            · rcases Nat.lt_or_ge j i with h2 | h2
              · exact h.1 j h2
              · rw [show j = i by omega]; exact hr.1.1 rfl
            · have h5 : rn = w + sz d false ((gr a 2).getD i []) := hr.2 rfl
              have := h.2
              omega
      have t2 : shP a → Tot (fun k p q => path_measure_path_l2 (lv k) k n true (gi a 0) (gr a 1) (gr a 2) deep k 0 (n + 1) true) (MQ (d + 1) true a n) := fun sh => by
        refine Tot.in0 (Tot.loop (H := fun k p q v (w : Int) => path_measure_path_l2 (lv k) k n true (gi a 0) (gr a 1) (gr a 2) deep p v w true) (n := (gr a 1).length) (fun i w => (∀ j, j < i → okR d true ((gr a 1).getD j [])) ∧ w = n + 1 + ((((gr a 1).take i).map (sz d true)).sum : Int)) (by omega) (fun w h => ?_) (fun i w hi h next => ?_) _ 0 _ rfl (by omega) ⟨fun j hj => by omega, by simp⟩)
        · refine Tot.step0 (fun k p_ q_ => path_measure_path_l2_q (lv k) k n true (gi a 0) (gr a 1) (gr a 2) deep p_ _ w true) ?_
          refine Tot.f (decide_eq_false (by omega)) ?_
          have hw := h.2
          rw [List.take_length] at hw
          subst hw
          exact Tot.in0 (t3 sh h.1)
        · refine Tot.step0 (fun k p_ q_ => path_measure_path_l2_q (lv k) k n true (gi a 0) (gr a 1) (gr a 2) deep p_ _ w true) ?_
          rw [Int.toNat_natCast, hwd]
          refine Tot.t (decide_eq_true (by omega)) (Tot.t rfl ?_)
          repeat (refine Tot.t (decide_eq_true (by omega)) ?_)
          have hst := sum_take (gr a 1) (sz d true) i [] hi
          have hle := take_le (sz d true) (gr a 1) (i + 1)
          refine Tot.bind (ih.1 _ w (deep + 1) ((ha.gr 1).get i) (by have := h.2; omega) (by have := h.2; omega) (by omega)) fun r hr => ?_
          obtain ⟨rn, rb⟩ := r
          cases rb with
          | false =>
            have hno : ¬ okR (d + 1) true a := fun hk => by have := hr.1.2 (hk.2.1 i hi); cases this
            rw [wrap_id (x := (i : Int) + 1) (by omega) (by omega), show (i : Int) + 1 = ((i + 1 : Nat) : Int) by omega]
            exact f2 rn (i + 1) (by omega) hno
          | true =>
            refine next rn ⟨fun j hj => ?_, ?_⟩
            · rcases Nat.lt_or_ge j i with h2 | h2
              · exact h.1 j h2
              · rw [show j = i by omega]; exact hr.1.1 rfl
            · have h5 : rn = w + sz d true ((gr a 1).getD i []) := hr.2 rfl
              have := h.2
              omega
      have go : ∀ b : Bool, (b = true ↔ shP a) → Tot (fun k p q => path_measure_path_l2 (lv k) k n true (gi a 0) (gr a 1) (gr a 2) deep k 0 (n + 1) b) (MQ (d + 1) true a n) := fun b hb => by
        cases b with
        | true => exact t2 (hb.1 rfl)
        | false => exact Tot.in0 (g := fun k p q => path_measure_path_l2 (lv k) k n true (gi a 0) (gr a 1) (gr a 2) deep p ((0 : Nat) : Int) (n + 1) false) (f2 _ 0 (by omega) fun h => by have := hb.2 h.1; cases this)
      have hpos := sz_pos (d + 1) true a
      have dz : ∀ {x c : Nat} {b : Bool}, ((x : Int) == (c : Int)) = b → (b = true ↔ x = c) := fun {x c b} h => by subst h; rw [beq_iff_eq]; omega
      refine path_measure_path_up _ _ _ _ _ _ (Tot.congr ?_ (fun k _ _ => path_measure_path_q (lv k) k n true (gi a 0) (gr a 1) (gr a 2) deep))
      refine Tot.bind (part_yes n deep h0 (by omega)) fun r hr => ?_
      subst hr
      have hdd : decide (deep < 16) = true := decide_eq_true (by omega)
      simp only [hdd]
      have l1 : gi a 0 ≠ 1 → gi a 0 ≠ 2 → gi a 0 ≠ 3 → Tot (fun k p q => path_measure_path_l1 (lv k) k n true (gi a 0) (gr a 1) (gr a 2) deep (n + 1) true) (MQ (d + 1) true a n) := fun n1 n2 n3 => by
        have last : gi a 0 ≠ 4 → gi a 0 ≠ 5 → Tot (fun k p q => cond (gi a 0 == (6 : Int)) (cond (((gr a 1).length : Int) == (1 : Int)) (path_measure_path_l2 (lv k) k n true (gi a 0) (gr a 1) (gr a 2) deep k 0 (n + 1) (((gr a 2).length : Int) == (0 : Int))) (path_measure_path_l2 (lv k) k n true (gi a 0) (gr a 1) (gr a 2) deep k 0 (n + 1) false)) (cond (gi a 0 == (7 : Int)) (cond (((gr a 1).length : Int) == (0 : Int)) (path_measure_path_l2 (lv k) k n true (gi a 0) (gr a 1) (gr a 2) deep k 0 (n + 1) (((gr a 2).length : Int) == (1 : Int))) (path_measure_path_l2 (lv k) k n true (gi a 0) (gr a 1) (gr a 2) deep k 0 (n + 1) false)) (path_measure_path_l2 (lv k) k n true (gi a 0) (gr a 1) (gr a 2) deep k 0 (n + 1) false))) (MQ (d + 1) true a n) := fun n4 n5 => by
          refine Tot.cond (fun c => ?_) (fun c => Tot.cond (fun c' => ?_) (fun c' => go false ⟨fun e => (by cases e), fun h => ?_⟩))
          · have c := eq_of_beq c
            refine Tot.cond (fun e => go _ ((dz (c := 0) rfl).trans ?_)) (fun e => go false ⟨fun e => (by cases e), fun h => ?_⟩)
            · have e := eq_of_beq e; unfold shP; omega
            · have e := ne_of_beq_false e; unfold shP at h; omega
          · have c' := eq_of_beq c'
            refine Tot.cond (fun e => go _ ((dz (c := 1) rfl).trans ?_)) (fun e => go false ⟨fun e => (by cases e), fun h => ?_⟩)
            · have e := eq_of_beq e; unfold shP; omega
            · have e := ne_of_beq_false e; unfold shP at h; omega
          · have c := ne_of_beq_false c; have c' := ne_of_beq_false c'; unfold shP at h; omega
        refine Tot.congr ?_ (fun k p_ q_ => path_measure_path_l1_q (lv k) k n true (gi a 0) (gr a 1) (gr a 2) deep (n + 1) true )
        have two : gi a 0 = 4 ∨ gi a 0 = 5 → Tot (fun k p q => cond (decide (((gr a 1).length : Int) ≥ (2 : Int))) (path_measure_path_l2 (lv k) k n true (gi a 0) (gr a 1) (gr a 2) deep k 0 (n + 1) (((gr a 2).length : Int) == (0 : Int))) (path_measure_path_l2 (lv k) k n true (gi a 0) (gr a 1) (gr a 2) deep k 0 (n + 1) false)) (MQ (d + 1) true a n) := fun ho => by
          refine Tot.cond (fun e => go _ ((dz (c := 0) rfl).trans ?_)) (fun e => go false ⟨fun e => (by cases e), fun h => ?_⟩)
          · have e := of_decide_eq_true e; unfold shP; omega
          · have e := of_decide_eq_false e; unfold shP at h; omega
        exact Tot.cond (fun c => Tot.t c (two (.inl (eq_of_beq c)))) (fun c => Tot.cond (fun c' => two (.inr (eq_of_beq c'))) (fun c' => last (ne_of_beq_false c) (ne_of_beq_false c')))
      have zero : gi a 0 = 1 ∨ gi a 0 = 2 ∨ gi a 0 = 3 → Tot (fun k p q => cond (((gr a 1).length : Int) == (0 : Int)) (path_measure_path_l2 (lv k) k n true (gi a 0) (gr a 1) (gr a 2) deep k 0 (n + 1) (((gr a 2).length : Int) == (0 : Int))) (path_measure_path_l2 (lv k) k n true (gi a 0) (gr a 1) (gr a 2) deep k 0 (n + 1) false)) (MQ (d + 1) true a n) := fun ho => by
        refine Tot.cond (fun e => go _ ((dz (c := 0) rfl).trans ?_)) (fun e => go false ⟨fun e => (by cases e), fun h => ?_⟩)
        · have e := eq_of_beq e; unfold shP; omega
        · have e := ne_of_beq_false e; unfold shP at h; omega
      refine Tot.f rfl (Tot.cond (fun c => Tot.t c (zero (.inl (eq_of_beq c)))) (fun c => Tot.cond (fun c' => Tot.t c' (zero (.inr (.inl (eq_of_beq c'))))) (fun c' => Tot.cond (fun c'' => zero (.inr (.inr (eq_of_beq c'')))) (fun c'' => l1 (ne_of_beq_false c) (ne_of_beq_false c') (ne_of_beq_false c'')))))
    · intro a n deep ha h0 hz hd
      have hl1 : (gr a 4).length ≤ 1048576 := (ha.gr 4).1
      have hl2 : (gr a 5).length ≤ 1048576 := (ha.gr 5).1
      have esz : sz (d + 1) false a = 1 + ((gr a 4).map (sz d false)).sum + ((gr a 5).map (sz d true)).sum := rfl
      have hs1 := sum_len (sz d false) (sz_pos d false) (gr a 4)
      have hwd : IntKind.i64.wrap (deep + 1) = deep + 1 := wrap_id (by omega) (by omega)
      have f3 : ∀ (m : Int) (i : Nat), i ≤ (gr a 5).length → ¬ okR (d + 1) false a → Tot (fun k p q => path_measure_filter_l1 (lv k) k n true (gi a 0) (gs a 1) (gs a 2) (gs a 3) (gr a 4) (gr a 5) deep p (i : Int) m false) (MQ (d + 1) false a n) := fun m i hi hno => by
        refine Tot.step0 (fun k p_ q_ => path_measure_filter_l1_q (lv k) k n true (gi a 0) (gs a 1) (gs a 2) (gs a 3) (gr a 4) (gr a 5) deep p_ (i : Int) m false) ?_
        exact Tot.cond (fun _ => Tot.f rfl (Tot.ret (MQ.no hno))) (fun _ => Tot.ret (MQ.no hno))
      have f2 : ∀ (m : Int) (i : Nat), i ≤ (gr a 4).length → ¬ okR (d + 1) false a → Tot (fun k p q => path_measure_filter_l0 (lv k) k n true (gi a 0) (gs a 1) (gs a 2) (gs a 3) (gr a 4) (gr a 5) deep p (i : Int) m false) (MQ (d + 1) false a n) := fun m i hi hno => by
        refine Tot.step0 (fun k p_ q_ => path_measure_filter_l0_q (lv k) k n true (gi a 0) (gs a 1) (gs a 2) (gs a 3) (gr a 4) (gr a 5) deep p_ (i : Int) m false) ?_
        have e := Tot.in0 (g := fun k p q => path_measure_filter_l1 (lv k) k n true (gi a 0) (gs a 1) (gs a 2) (gs a 3) (gr a 4) (gr a 5) deep p ((0 : Nat) : Int) m false) (f3 m 0 (by omega) hno)
        exact Tot.cond (fun _ => Tot.f rfl e) (fun _ => e)
      have t3 : shF a → (∀ i, i < (gr a 4).length → okR d false ((gr a 4).getD i [])) → Tot (fun k p q => path_measure_filter_l1 (lv k) k n true (gi a 0) (gs a 1) (gs a 2) (gs a 3) (gr a 4) (gr a 5) deep p 0 (n + 1 + (((gr a 4).map (sz d false)).sum : Int)) true) (MQ (d + 1) false a n) := fun sh hs => by
        refine Tot.loop (H := fun k p q v (w : Int) => path_measure_filter_l1 (lv k) k n true (gi a 0) (gs a 1) (gs a 2) (gs a 3) (gr a 4) (gr a 5) deep p v w true) (n := (gr a 5).length) (fun i w => (∀ j, j < i → okR d true ((gr a 5).getD j [])) ∧ w = n + 1 + (((gr a 4).map (sz d false)).sum : Int) + ((((gr a 5).take i).map (sz d true)).sum : Int)) (by omega) (fun w h => ?_) (fun i w hi h next => ?_) _ 0 _ rfl (by omega) ⟨fun j hj => by omega, by simp⟩
        · refine Tot.step0 (fun k p_ q_ => path_measure_filter_l1_q (lv k) k n true (gi a 0) (gs a 1) (gs a 2) (gs a 3) (gr a 4) (gr a 5) deep p_ _ w true) ?_
          refine Tot.f (decide_eq_false (by omega)) (Tot.ret ⟨⟨fun _ => ⟨sh, hs, h.1⟩, fun _ => rfl⟩, fun _ => ?_⟩)
          have := h.2
          rw [List.take_length] at this
          show w = _
          omega
        · refine Tot.step0 (fun k p_ q_ => path_measure_filter_l1_q (lv k) k n true (gi a 0) (gs a 1) (gs a 2) (gs a 3) (gr a 4) (gr a 5) deep p_ _ w true) ?_
          rw [Int.toNat_natCast, hwd]
          refine Tot.t (decide_eq_true (by omega)) (Tot.t rfl ?_)
          repeat (refine Tot.t (decide_eq_true (by omega)) ?_)
          have hst := sum_take (gr a 5) (sz d true) i [] hi
          have hle := take_le (sz d true) (gr a 5) (i + 1)
          refine Tot.bind (ih.1 _ w (deep + 1) ((ha.gr 5).get i) (by have := h.2; omega) (by have := h.2; omega) (by omega)) fun r hr => ?_
          obtain ⟨rn, rb⟩ := r
          cases rb with
          | false =>
            have hno : ¬ okR (d + 1) false a := fun hk => by have := hr.1.2 (hk.2.2 i hi); cases this
            rw [wrap_id (x := (i : Int) + 1) (by omega) (by omega), show (i : Int) + 1 = ((i + 1 : Nat) : Int) by omega]
            exact f3 rn (i + 1) (by omega) hno
          | true =>
            refine next rn ⟨fun j hj => ?_, ?_⟩
            · rcases Nat.lt_or_ge j i with h2 | h2
              · exact h.1 j h2
              · rw [show j = i by omega]; exact hr.1.1 rfl
            · have h5 : rn = w + sz d true ((gr a 5).getD i []) := hr.2 rfl
              have := h.2
              omega
      have t2 : shF a → Tot (fun k p q => path_measure_filter_l0 (lv k) k n true (gi a 0) (gs a 1) (gs a 2) (gs a 3) (gr a 4) (gr a 5) deep p 0 (n + 1) true) (MQ (d + 1) false a n) := fun sh => by
        refine Tot.loop (H := fun k p q v (w : Int) => path_measure_filter_l0 (lv k) k n true (gi a 0) (gs a 1) (gs a 2) (gs a 3) (gr a 4) (gr a 5) deep p v w true) (n := (gr a 4).length) (fun i w => (∀ j, j < i → okR d false ((gr a 4).getD j [])) ∧ w = n + 1 + ((((gr a 4).take i).map (sz d false)).sum : Int)) (by omega) (fun w h => ?_) (fun i w hi h next => ?_) _ 0 _ rfl (by omega) ⟨fun j hj => by omega, by simp⟩
        · refine Tot.step0 (fun k p_ q_ => path_measure_filter_l0_q (lv k) k n true (gi a 0) (gs a 1) (gs a 2) (gs a 3) (gr a 4) (gr a 5) deep p_ _ w true) ?_
          refine Tot.f (decide_eq_false (by omega)) ?_
          have hw := h.2
          rw [List.take_length] at hw
          subst hw
          exact Tot.in0 (t3 sh h.1)
        · refine Tot.step0 (fun k p_ q_ => path_measure_filter_l0_q (lv k) k n true (gi a 0) (gs a 1) (gs a 2) (gs a 3) (gr a 4) (gr a 5) deep p_ _ w true) ?_
          rw [Int.toNat_natCast, hwd]
          refine Tot.t (decide_eq_true (by omega)) (Tot.t rfl ?_)
          repeat (refine Tot.t (decide_eq_true (by omega)) ?_)
          have hst := sum_take (gr a 4) (sz d false) i [] hi
          have hle := take_le (sz d false) (gr a 4) (i + 1)
          refine Tot.bind (ih.2 _ w (deep + 1) ((ha.gr 4).get i) (by have := h.2; omega) (by have := h.2; omega) (by omega)) fun r hr => ?_
          obtain ⟨rn, rb⟩ := r
          cases rb with
          | false =>
            have hno : ¬ okR (d + 1) false a := fun hk => by have := hr.1.2 (hk.2.1 i hi); cases this
            rw [wrap_id (x := (i : Int) + 1) (by omega) (by omega), show (i : Int) + 1 = ((i + 1 : Nat) : Int) by omega]
            exact f2 rn (i + 1) (by omega) hno
          | true =>
            refine next rn ⟨fun j hj => ?_, ?_⟩
            · rcases Nat.lt_or_ge j i with h2 | h2
              · exact h.1 j h2
              · rw [show j = i by omega]; exact hr.1.1 rfl
            · have h5 : rn = w + sz d false ((gr a 4).getD i []) := hr.2 rfl
              have := h.2
              omega
      have hpos := sz_pos (d + 1) false a
      refine path_measure_filter_up _ _ _ _ _ _ _ _ _ (Tot.congr ?_ (fun k _ _ => path_measure_filter_q (lv k) k n true (gi a 0) (gs a 1) (gs a 2) (gs a 3) (gr a 4) (gr a 5) deep))
      refine Tot.bind (part_yes n deep h0 (by omega)) fun r hr => ?_
      subst hr
      have hdd : decide (deep < 16) = true := decide_eq_true (by omega)
      simp only [hdd]
      refine Tot.f rfl (Tot.bind (shape_iff hN a ha (by omega)) fun b hb => ?_)
      cases b with
      | true => exact Tot.in0 (g := fun k p q => path_measure_filter_l0 (lv k) k n true (gi a 0) (gs a 1) (gs a 2) (gs a 3) (gr a 4) (gr a 5) deep p 0 (n + 1) true) (t2 (hb.1 rfl))
      | false => exact Tot.in0 (g := fun k p q => path_measure_filter_l0 (lv k) k n true (gi a 0) (gs a 1) (gs a 2) (gs a 3) (gr a 4) (gr a 5) deep p ((0 : Nat) : Int) (n + 1) false) (f2 _ 0 (by omega) fun h => by have := hb.2 h.1; cases this)
end
-- Law
def SizeE (k : Bool) (a : List C) (most r : Int) : Prop := 1 ≤ r ∧ r ≤ most + 1 ∧ (r ≤ most → ∃ D, ∀ d, D ≤ d → (sz d k a : Int) = r)
theorem sizeE_tot : ∀ M : Nat,
    (∀ (a : List C) (most : Int), SizeOf.sizeOf a < M → SmR BB a → 0 ≤ most → most ≤ 64 → Tot (fun k _ _ => (lv k).orielref12_size (gi a 0) (gr a 1) (gr a 2) most) (SizeE true a most)) ∧
    (∀ (a : List C) (most : Int), SizeOf.sizeOf a < M → SmR BB a → 0 ≤ most → most ≤ 64 → Tot (fun k _ _ => (lv k).orielref12_sizeFilter (gi a 0) (gs a 1) (gs a 2) (gs a 3) (gr a 4) (gr a 5) most) (SizeE false a most)) := by
  intro M
  induction M with
  | zero => exact ⟨fun _ _ h => by omega, fun _ _ h => by omega⟩
  | succ M ih =>
    constructor
    · intro a most hM ha h0 h64
      have hl1 : (gr a 1).length ≤ 1048576 := (ha.gr 1).1
      have hl2 : (gr a 2).length ≤ 1048576 := (ha.gr 2).1
      refine orielref12_size_up _ _ _ _ (Tot.congr ?_ (fun k _ _ => orielref12_size_q (lv k) k (gi a 0) (gr a 1) (gr a 2) most))
      have l1 : ∀ (d i : Nat) (v : Int), (gr a 2).length - i = d → i ≤ (gr a 2).length → 1 ≤ v → v ≤ most + 1 → (v ≤ most → ∃ D, ∀ d, D ≤ d → 1 + (((gr a 1).map (sz d true)).sum : Int) + (((gr a 2).take i).map (sz d false)).sum = v) → Tot (fun k x y => orielref12_size_l1 (lv k) k (gi a 0) (gr a 1) (gr a 2) most x v i) (SizeE true a most) := by
        intro d
        induction d using Nat.strongRecOn with | _ d ihd => ?_
        intro i v hd hi g1 g2 g3
        have hend : i = (gr a 2).length ∨ ¬ v ≤ most → SizeE true a most v := fun h => ⟨g1, g2, fun hv => by
          rcases h with h | h
          · obtain ⟨D, hD⟩ := g3 hv
            refine ⟨D + 1, fun d hd => ?_⟩
            obtain ⟨d, rfl⟩ : ∃ e, d = e + 1 := ⟨d - 1, by omega⟩
            have := hD d (by omega)
            rw [h, List.take_length] at this
            simp only [sz]
            omega
          · exact absurd hv h⟩
        refine Tot.step0 (fun k x y => orielref12_size_l1_q (lv k) k (gi a 0) (gr a 1) (gr a 2) most x v (i : Int)) ?_
        rw [wrap_id (x := most - v) (by omega) (by omega), wrap_id (x := (i : Int) + 1) (by omega) (by omega), Int.toNat_natCast]
        refine Tot.cond (fun hc => Tot.cond (fun hc2 => ?_) (fun hc2 => Tot.ret (hend (.inr (of_decide_eq_false hc2))))) (fun hc => Tot.ret (hend (.inl ?_)))
        · have hc := of_decide_eq_true hc
          have hc2 := of_decide_eq_true hc2
          refine Tot.t (decide_eq_true (by omega)) (Tot.t (decide_eq_true (by omega)) ?_)
          refine Tot.bind (ih.2 _ _ (part_lt hM (by omega : i < (gr a 2).length)) ((ha.gr 2).get i) (by omega) (by omega)) fun r hr => ?_
          obtain ⟨r1, r2, r3⟩ := hr
          rw [wrap_id (x := v + r) (by omega) (by omega)]
          refine ihd _ (by omega) (i + 1) (v + r) rfl (by omega) (by omega) (by omega) (fun hv => ?_)
          obtain ⟨D1, h1⟩ := g3 (by omega)
          obtain ⟨D2, h2⟩ := r3 (by omega)
          refine ⟨max D1 D2, fun d hd => ?_⟩
          have h1 := h1 d (by omega)
          have h2 := h2 d (by omega)
          rw [sum_take _ _ _ [] (by omega)]
          omega
        · have hc := of_decide_eq_false hc
          omega
      have l0 : ∀ (d i : Nat) (v : Int), (gr a 1).length - i = d → i ≤ (gr a 1).length → 1 ≤ v → v ≤ most + 1 → (v ≤ most → ∃ D, ∀ d, D ≤ d → 1 + ((((gr a 1).take i).map (sz d true)).sum : Int) = v) → Tot (fun k x y => orielref12_size_l0 (lv k) k (gi a 0) (gr a 1) (gr a 2) most x v i) (SizeE true a most) := by
        intro d
        induction d using Nat.strongRecOn with | _ d ihd => ?_
        intro i v hd hi g1 g2 g3
        have hend : i = (gr a 1).length ∨ ¬ v ≤ most → Tot (fun k x y => orielref12_size_l1 (lv k) k (gi a 0) (gr a 1) (gr a 2) most k v 0) (SizeE true a most) := fun h => Tot.in0 (l1 _ 0 v rfl (by omega) g1 g2 (fun hv => by
          rcases h with h | h
          · obtain ⟨D, hD⟩ := g3 hv
            refine ⟨D, fun d hd => ?_⟩
            have := hD d hd
            rw [h, List.take_length] at this
            simpa using this
          · exact absurd hv h))
        refine Tot.step0 (fun k x y => orielref12_size_l0_q (lv k) k (gi a 0) (gr a 1) (gr a 2) most x v (i : Int)) ?_
        rw [wrap_id (x := most - v) (by omega) (by omega), wrap_id (x := (i : Int) + 1) (by omega) (by omega), Int.toNat_natCast]
        refine Tot.cond (fun hc => Tot.cond (fun hc2 => ?_) (fun hc2 => hend (.inr (of_decide_eq_false hc2)))) (fun hc => hend (.inl ?_))
        · have hc := of_decide_eq_true hc
          have hc2 := of_decide_eq_true hc2
          refine Tot.t (decide_eq_true (by omega)) (Tot.t (decide_eq_true (by omega)) ?_)
          refine Tot.bind (ih.1 _ _ (part_lt hM (by omega : i < (gr a 1).length)) ((ha.gr 1).get i) (by omega) (by omega)) fun r hr => ?_
          obtain ⟨r1, r2, r3⟩ := hr
          rw [wrap_id (x := v + r) (by omega) (by omega)]
          refine ihd _ (by omega) (i + 1) (v + r) rfl (by omega) (by omega) (by omega) (fun hv => ?_)
          obtain ⟨D1, h1⟩ := g3 (by omega)
          obtain ⟨D2, h2⟩ := r3 (by omega)
          refine ⟨max D1 D2, fun d hd => ?_⟩
          have h1 := h1 d (by omega)
          have h2 := h2 d (by omega)
          rw [sum_take _ _ _ [] (by omega)]
          omega
        · have hc := of_decide_eq_false hc
          omega
      exact Tot.in0 (l0 _ 0 1 rfl (by omega) (by omega) (by omega) (fun h => ⟨0, fun d _ => by simp⟩))
    · intro a most hM ha h0 h64
      have hl1 : (gr a 4).length ≤ 1048576 := (ha.gr 4).1
      have hl2 : (gr a 5).length ≤ 1048576 := (ha.gr 5).1
      refine orielref12_sizeFilter_up _ _ _ _ _ _ _ (Tot.congr ?_ (fun k _ _ => orielref12_sizeFilter_q (lv k) k (gi a 0) (gs a 1) (gs a 2) (gs a 3) (gr a 4) (gr a 5) most))
      have l1 : ∀ (d i : Nat) (v : Int), (gr a 5).length - i = d → i ≤ (gr a 5).length → 1 ≤ v → v ≤ most + 1 → (v ≤ most → ∃ D, ∀ d, D ≤ d → 1 + (((gr a 4).map (sz d false)).sum : Int) + (((gr a 5).take i).map (sz d true)).sum = v) → Tot (fun k x y => orielref12_sizeFilter_l1 (lv k) k (gi a 0) (gs a 1) (gs a 2) (gs a 3) (gr a 4) (gr a 5) most x v i) (SizeE false a most) := by
        intro d
        induction d using Nat.strongRecOn with | _ d ihd => ?_
        intro i v hd hi g1 g2 g3
        have hend : i = (gr a 5).length ∨ ¬ v ≤ most → SizeE false a most v := fun h => ⟨g1, g2, fun hv => by
          rcases h with h | h
          · obtain ⟨D, hD⟩ := g3 hv
            refine ⟨D + 1, fun d hd => ?_⟩
            obtain ⟨d, rfl⟩ : ∃ e, d = e + 1 := ⟨d - 1, by omega⟩
            have := hD d (by omega)
            rw [h, List.take_length] at this
            simp only [sz]
            omega
          · exact absurd hv h⟩
        refine Tot.step0 (fun k x y => orielref12_sizeFilter_l1_q (lv k) k (gi a 0) (gs a 1) (gs a 2) (gs a 3) (gr a 4) (gr a 5) most x v (i : Int)) ?_
        rw [wrap_id (x := most - v) (by omega) (by omega), wrap_id (x := (i : Int) + 1) (by omega) (by omega), Int.toNat_natCast]
        refine Tot.cond (fun hc => Tot.cond (fun hc2 => ?_) (fun hc2 => Tot.ret (hend (.inr (of_decide_eq_false hc2))))) (fun hc => Tot.ret (hend (.inl ?_)))
        · have hc := of_decide_eq_true hc
          have hc2 := of_decide_eq_true hc2
          refine Tot.t (decide_eq_true (by omega)) (Tot.t (decide_eq_true (by omega)) ?_)
          refine Tot.bind (ih.1 _ _ (part_lt hM (by omega : i < (gr a 5).length)) ((ha.gr 5).get i) (by omega) (by omega)) fun r hr => ?_
          obtain ⟨r1, r2, r3⟩ := hr
          rw [wrap_id (x := v + r) (by omega) (by omega)]
          refine ihd _ (by omega) (i + 1) (v + r) rfl (by omega) (by omega) (by omega) (fun hv => ?_)
          obtain ⟨D1, h1⟩ := g3 (by omega)
          obtain ⟨D2, h2⟩ := r3 (by omega)
          refine ⟨max D1 D2, fun d hd => ?_⟩
          have h1 := h1 d (by omega)
          have h2 := h2 d (by omega)
          rw [sum_take _ _ _ [] (by omega)]
          omega
        · have hc := of_decide_eq_false hc
          omega
      have l0 : ∀ (d i : Nat) (v : Int), (gr a 4).length - i = d → i ≤ (gr a 4).length → 1 ≤ v → v ≤ most + 1 → (v ≤ most → ∃ D, ∀ d, D ≤ d → 1 + ((((gr a 4).take i).map (sz d false)).sum : Int) = v) → Tot (fun k x y => orielref12_sizeFilter_l0 (lv k) k (gi a 0) (gs a 1) (gs a 2) (gs a 3) (gr a 4) (gr a 5) most x v i) (SizeE false a most) := by
        intro d
        induction d using Nat.strongRecOn with | _ d ihd => ?_
        intro i v hd hi g1 g2 g3
        have hend : i = (gr a 4).length ∨ ¬ v ≤ most → Tot (fun k x y => orielref12_sizeFilter_l1 (lv k) k (gi a 0) (gs a 1) (gs a 2) (gs a 3) (gr a 4) (gr a 5) most k v 0) (SizeE false a most) := fun h => Tot.in0 (l1 _ 0 v rfl (by omega) g1 g2 (fun hv => by
          rcases h with h | h
          · obtain ⟨D, hD⟩ := g3 hv
            refine ⟨D, fun d hd => ?_⟩
            have := hD d hd
            rw [h, List.take_length] at this
            simpa using this
          · exact absurd hv h))
        refine Tot.step0 (fun k x y => orielref12_sizeFilter_l0_q (lv k) k (gi a 0) (gs a 1) (gs a 2) (gs a 3) (gr a 4) (gr a 5) most x v (i : Int)) ?_
        rw [wrap_id (x := most - v) (by omega) (by omega), wrap_id (x := (i : Int) + 1) (by omega) (by omega), Int.toNat_natCast]
        refine Tot.cond (fun hc => Tot.cond (fun hc2 => ?_) (fun hc2 => hend (.inr (of_decide_eq_false hc2)))) (fun hc => hend (.inl ?_))
        · have hc := of_decide_eq_true hc
          have hc2 := of_decide_eq_true hc2
          refine Tot.t (decide_eq_true (by omega)) (Tot.t (decide_eq_true (by omega)) ?_)
          refine Tot.bind (ih.2 _ _ (part_lt hM (by omega : i < (gr a 4).length)) ((ha.gr 4).get i) (by omega) (by omega)) fun r hr => ?_
          obtain ⟨r1, r2, r3⟩ := hr
          rw [wrap_id (x := v + r) (by omega) (by omega)]
          refine ihd _ (by omega) (i + 1) (v + r) rfl (by omega) (by omega) (by omega) (fun hv => ?_)
          obtain ⟨D1, h1⟩ := g3 (by omega)
          obtain ⟨D2, h2⟩ := r3 (by omega)
          refine ⟨max D1 D2, fun d hd => ?_⟩
          have h1 := h1 d (by omega)
          have h2 := h2 d (by omega)
          rw [sum_take _ _ _ [] (by omega)]
          omega
        · have hc := of_decide_eq_false hc
          omega
      exact Tot.in0 (l0 _ 0 1 rfl (by omega) (by omega) (by omega) (fun h => ⟨0, fun d _ => by simp⟩))
theorem rsame_tots : ∀ M : Nat,
    (∀ (a b : List C), SizeOf.sizeOf a < M → SmR BB a → SmR BB b → Tot (fun k _ _ => (lv k).orielref12_Same (gi a 0) (gr a 1) (gr a 2) (gi b 0) (gr b 1) (gr b 2)) (AlQ true a b)) ∧
    (∀ (a b : List C), SizeOf.sizeOf a < M → SmR BB a → SmR BB b → Tot (fun k _ _ => (lv k).orielref12_SameFilter (gi a 0) (gs a 1) (gs a 2) (gs a 3) (gr a 4) (gr a 5) (gi b 0) (gs b 1) (gs b 2) (gs b 3) (gr b 4) (gr b 5)) (AlQ false a b)) := by
  intro M
  induction M with
  | zero => exact ⟨fun _ _ h => by omega, fun _ _ h => by omega⟩
  | succ M ih =>
    constructor
    · intro a b hM ha hb
      have hl1 : (gr a 1).length ≤ 1048576 := (ha.gr 1).1
      have hl2 : (gr a 2).length ≤ 1048576 := (ha.gr 2).1
      have no : ¬ Alike true a b → Tot (fun _ _ _ => some false) (AlQ true a b) := fun h => Tot.ret (al_no h)
      refine orielref12_Same_up _ _ _ _ _ _ (Tot.congr ?_ (fun k _ _ => orielref12_Same_q (lv k) k (gi a 0) (gr a 1) (gr a 2) (gi b 0) (gr b 1) (gr b 2)))
      refine Tot.cond (fun h0 => no fun h => ?_) (fun h0 => Tot.cond (fun h1 => no fun h => ?_) (fun h1 => Tot.cond (fun h2 => no fun h => ?_) (fun h2 => ?_)))
      · cases h with
        | path e _ _ _ _ => rw [e] at h0; simp at h0
      · cases h with
        | path _ e _ _ _ => exact lent h1 e
      · cases h with
        | path _ _ e _ _ => exact lent h2 e
      have h0 : gi a 0 = gi b 0 := by simpa using h0
      have h1 := lenb h1
      have h2 := lenb h2
      refine Tot.in0 (Tot.every (H := fun k x y v => orielref12_Same_l0 (lv k) k (gi a 0) (gr a 1) (gr a 2) (gi b 0) (gr b 1) (gr b 2) x v) (n := (gr a 1).length) (p := fun i => Alike true ((gr a 1).getD i []) ((gr b 1).getD i [])) (by omega) (fun h j hj => by cases h with | path _ _ _ e _ => exact e j hj) (fun hs => ?_) (fun i Q hi hf ht => ?_))
      · refine Tot.step0 (fun k p_ q_ => orielref12_Same_l0_q (lv k) k (gi a 0) (gr a 1) (gr a 2) (gi b 0) (gr b 1) (gr b 2) p_ _) ?_
        refine Tot.f (decide_eq_false (by omega)) ?_
        refine Tot.in0 (Tot.every (H := fun k x y v => orielref12_Same_l1 (lv k) k (gi a 0) (gr a 1) (gr a 2) (gi b 0) (gr b 1) (gr b 2) x v) (n := (gr a 2).length) (p := fun i => Alike false ((gr a 2).getD i []) ((gr b 2).getD i [])) (by omega) (fun h j hj => by cases h with | path _ _ _ _ e => exact e j hj) (fun ht => ?_) (fun i Q hi hf ht => ?_))
        · refine Tot.step0 (fun k p_ q_ => orielref12_Same_l1_q (lv k) k (gi a 0) (gr a 1) (gr a 2) (gi b 0) (gr b 1) (gr b 2) p_ _) ?_
          exact Tot.f (decide_eq_false (by omega)) (Tot.ret ⟨fun _ => .path h0 h1 h2 hs ht, fun _ => rfl⟩)
        · refine Tot.step0 (fun k p_ q_ => orielref12_Same_l1_q (lv k) k (gi a 0) (gr a 1) (gr a 2) (gi b 0) (gr b 1) (gr b 2) p_ _) ?_
          rw [Int.toNat_natCast]
          repeat (refine Tot.t (decide_eq_true (by omega)) ?_)
          exact Tot.bind (ih.2 _ _ (part_lt hM hi) ((ha.gr 2).get i) ((hb.gr 2).get i)) fun r hr => Tot.cond (fun hn => Tot.ret (hf fun h => by rw [hr.2 h] at hn; cases hn)) (fun hn => ht (hr.1 (by simpa using hn)))
      · refine Tot.step0 (fun k p_ q_ => orielref12_Same_l0_q (lv k) k (gi a 0) (gr a 1) (gr a 2) (gi b 0) (gr b 1) (gr b 2) p_ _) ?_
        rw [Int.toNat_natCast]
        repeat (refine Tot.t (decide_eq_true (by omega)) ?_)
        exact Tot.bind (ih.1 _ _ (part_lt hM hi) ((ha.gr 1).get i) ((hb.gr 1).get i)) fun r hr => Tot.cond (fun hn => Tot.ret (hf fun h => by rw [hr.2 h] at hn; cases hn)) (fun hn => ht (hr.1 (by simpa using hn)))
    · intro a b hM ha hb
      have hl1 : (gr a 4).length ≤ 1048576 := (ha.gr 4).1
      have hl2 : (gr a 5).length ≤ 1048576 := (ha.gr 5).1
      have no : ¬ Alike false a b → Tot (fun _ _ _ => some false) (AlQ false a b) := fun h => Tot.ret (al_no h)
      refine orielref12_SameFilter_up _ _ _ _ _ _ _ _ _ _ _ _ (Tot.congr ?_ (fun k _ _ => orielref12_SameFilter_q (lv k) k (gi a 0) (gs a 1) (gs a 2) (gs a 3) (gr a 4) (gr a 5) (gi b 0) (gs b 1) (gs b 2) (gs b 3) (gr b 4) (gr b 5)))
      refine Tot.cond (fun h0 => no fun h => ?_) (fun h0 => Tot.cond (fun h1 => no fun h => ?_) (fun h1 => Tot.cond (fun h2 => no fun h => ?_) (fun h2 => Tot.cond (fun h3 => no fun h => ?_) (fun h3 => Tot.cond (fun h4 => no fun h => ?_) (fun h4 => ?_)))))
      · cases h with
        | filter e _ _ _ _ _ _ _ => rw [e] at h0; simp at h0
      · cases h with
        | filter _ e f _ _ _ _ _ => rw [name_eq.2 ⟨e, f⟩] at h1; cases h1
      · cases h with
        | filter _ _ _ e _ _ _ _ => rw [str_eq.2 e] at h2; cases h2
      · cases h with
        | filter _ _ _ _ e _ _ _ => exact lent h3 e
      · cases h with
        | filter _ _ _ _ _ e _ _ => exact lent h4 e
      have h0 : gi a 0 = gi b 0 := by simpa using h0
      obtain ⟨h1, h1'⟩ := name_eq.1 (show _ = true by simpa using h1)
      have h2 := str_eq.1 (show _ = true by simpa using h2)
      have h3 := lenb h3
      have h4 := lenb h4
      refine Tot.in0 (Tot.every (H := fun k x y v => orielref12_SameFilter_l0 (lv k) k (gi a 0) (gs a 1) (gs a 2) (gs a 3) (gr a 4) (gr a 5) (gi b 0) (gs b 1) (gs b 2) (gs b 3) (gr b 4) (gr b 5) x v) (n := (gr a 4).length) (p := fun i => Alike false ((gr a 4).getD i []) ((gr b 4).getD i [])) (by omega) (fun h j hj => by cases h with | filter _ _ _ _ _ _ e _ => exact e j hj) (fun hs => ?_) (fun i Q hi hf ht => ?_))
      · refine Tot.step0 (fun k p_ q_ => orielref12_SameFilter_l0_q (lv k) k (gi a 0) (gs a 1) (gs a 2) (gs a 3) (gr a 4) (gr a 5) (gi b 0) (gs b 1) (gs b 2) (gs b 3) (gr b 4) (gr b 5) p_ _) ?_
        refine Tot.f (decide_eq_false (by omega)) ?_
        refine Tot.in0 (Tot.every (H := fun k x y v => orielref12_SameFilter_l1 (lv k) k (gi a 0) (gs a 1) (gs a 2) (gs a 3) (gr a 4) (gr a 5) (gi b 0) (gs b 1) (gs b 2) (gs b 3) (gr b 4) (gr b 5) x v) (n := (gr a 5).length) (p := fun i => Alike true ((gr a 5).getD i []) ((gr b 5).getD i [])) (by omega) (fun h j hj => by cases h with | filter _ _ _ _ _ _ _ e => exact e j hj) (fun ht => ?_) (fun i Q hi hf ht => ?_))
        · refine Tot.step0 (fun k p_ q_ => orielref12_SameFilter_l1_q (lv k) k (gi a 0) (gs a 1) (gs a 2) (gs a 3) (gr a 4) (gr a 5) (gi b 0) (gs b 1) (gs b 2) (gs b 3) (gr b 4) (gr b 5) p_ _) ?_
          exact Tot.f (decide_eq_false (by omega)) (Tot.ret ⟨fun _ => .filter h0 h1 h1' h2 h3 h4 hs ht, fun _ => rfl⟩)
        · refine Tot.step0 (fun k p_ q_ => orielref12_SameFilter_l1_q (lv k) k (gi a 0) (gs a 1) (gs a 2) (gs a 3) (gr a 4) (gr a 5) (gi b 0) (gs b 1) (gs b 2) (gs b 3) (gr b 4) (gr b 5) p_ _) ?_
          rw [Int.toNat_natCast]
          repeat (refine Tot.t (decide_eq_true (by omega)) ?_)
          exact Tot.bind (ih.1 _ _ (part_lt hM hi) ((ha.gr 5).get i) ((hb.gr 5).get i)) fun r hr => Tot.cond (fun hn => Tot.ret (hf fun h => by rw [hr.2 h] at hn; cases hn)) (fun hn => ht (hr.1 (by simpa using hn)))
      · refine Tot.step0 (fun k p_ q_ => orielref12_SameFilter_l0_q (lv k) k (gi a 0) (gs a 1) (gs a 2) (gs a 3) (gr a 4) (gr a 5) (gi b 0) (gs b 1) (gs b 2) (gs b 3) (gr b 4) (gr b 5) p_ _) ?_
        rw [Int.toNat_natCast]
        repeat (refine Tot.t (decide_eq_true (by omega)) ?_)
        exact Tot.bind (ih.2 _ _ (part_lt hM hi) ((ha.gr 4).get i) ((hb.gr 4).get i)) fun r hr => Tot.cond (fun hn => Tot.ret (hf fun h => by rw [hr.2 h] at hn; cases hn)) (fun hn => ht (hr.1 (by simpa using hn)))
theorem rsame_tot (a b : List C) (ha : SmR BB a) (hb : SmR BB b) : Tot (fun k _ _ => (lv k).orielref12_Same (gi a 0) (gr a 1) (gr a 2) (gi b 0) (gr b 1) (gr b 2)) (AlQ true a b) := (rsame_tots _).1 a b (Nat.lt_succ_self _) ha hb
theorem okR_sz : ∀ {d : Nat} {k : Bool} {a : List C}, okR d k a → sz (d + 1) k a = sz d k a := by
  intro d
  induction d with
  | zero => intro k a h; exact h.elim
  | succ d ih =>
    intro k a h
    have mp : ∀ {f g : List C → Nat} {l : List (List C)}, (∀ i, i < l.length → f (l.getD i []) = g (l.getD i [])) → (l.map f).sum = (l.map g).sum := fun {f g l} e => by
      congr 1
      apply List.map_congr_left
      intro x hx
      obtain ⟨i, hi, rfl⟩ := List.getElem_of_mem hx
      have := e i hi
      rwa [List.getD_eq_getElem?_getD, List.getElem?_eq_getElem hi] at this
    cases k with
    | true =>
      rw [sz, sz, mp fun i hi => ih (h.2.1 i hi), mp fun i hi => ih (h.2.2 i hi)]
    | false =>
      rw [sz, sz, mp fun i hi => ih (h.2.1 i hi), mp fun i hi => ih (h.2.2 i hi)]
theorem okR_le : ∀ {d : Nat} {k : Bool} {a : List C}, okR d k a → okR (d + 1) k a := by
  intro d
  induction d with
  | zero => intro k a h; exact h.elim
  | succ d ih =>
    intro k a h
    cases k with
    | true => exact ⟨h.1, fun i hi => ih (h.2.1 i hi), fun i hi => ih (h.2.2 i hi)⟩
    | false => exact ⟨h.1, fun i hi => ih (h.2.1 i hi), fun i hi => ih (h.2.2 i hi)⟩
theorem okR_all {k : Bool} {a : List C} (h : okR 16 k a) : ∀ e, sz (16 + e) k a = sz 16 k a ∧ okR (16 + e) k a := by
  intro e
  induction e with
  | zero => exact ⟨rfl, h⟩
  | succ e ih => exact ⟨(okR_sz ih.2).trans ih.1, okR_le ih.2⟩
theorem Size_tot (a : List C) (ha : SmR BB a) : Tot (fun k _ _ => (lv k).orielref12_Size (gi a 0) (gr a 1) (gr a 2)) (fun r => (r ≤ 64 → ∀ d, (sz d true a : Int) ≤ r) ∧ (r ≤ 64 → okR 16 true a → r = sz 16 true a)) := by
  have h1 := (size_tot _).1 a 64 (Nat.lt_succ_self _) ha (by omega) (by omega)
  have h2 := (sizeE_tot _).1 a 64 (Nat.lt_succ_self _) ha (by omega) (by omega)
  obtain ⟨r, q, N, h⟩ := h1
  obtain ⟨r', q', N', h'⟩ := h2
  have e : some r = some r' := (h (max N N') (max N N') (max N N') (by omega) (by omega) (by omega)).symm.trans (h' (max N N') (max N N') (max N N') (by omega) (by omega) (by omega))
  cases e
  have h3 : Tot (fun k _ _ => (lv k).orielref12_size (gi a 0) (gr a 1) (gr a 2) 64) (fun x => x = r) := ⟨r, rfl, N, h⟩
  refine orielref12_Size_up _ _ _ (Tot.congr ?_ (fun k _ _ => orielref12_Size_q (lv k) k (gi a 0) (gr a 1) (gr a 2)))
  refine Tot.bind h3 fun x hx => Tot.ret ?_
  subst hx
  refine ⟨q.2.2, fun hr ho => ?_⟩
  obtain ⟨D, hD⟩ := q'.2.2 hr
  have h5 := hD (16 + D) (by omega)
  have h6 := (okR_all ho D).1
  omega
theorem rRight_iff' (a : List C) (ha : SmR BB a) {s : Int} (hs : s ≤ 64) (hS : Tot (fun k _ _ => (lv k).orielref12_Size (gi a 0) (gr a 1) (gr a 2)) (fun x => x = s)) : Tot (fun k _ _ => (lv k).orielref12_Right (gi a 0) (gr a 1) (gr a 2)) (fun r => r = true ↔ okR 16 true a) := by
  refine orielref12_Right_up _ _ _ (Tot.congr ?_ (fun k _ _ => orielref12_Right_q (lv k) k (gi a 0) (gr a 1) (gr a 2)))
  refine Tot.bind hS fun r hr => ?_
  subst hr
  exact Tot.t (decide_eq_true hs) (Tot.bind ((rright_iff 16 (by omega)).1 a ha) fun b hb => Tot.ret hb)
section
variable (hN : ∀ s t : ByteArray, s.size ≤ 1048576 → t.size ≤ 1048576 → Tot (fun k _ _ => (lv k).path_named s t) (fun r => r = true ↔ NameQ s t))
include hN
theorem measured_iff (a : List C) (ha : SmR BB a) (hz : sz 16 true a ≤ 64) : Tot (fun k _ _ => (lv k).path_measured (gi a 0) (gr a 1) (gr a 2)) (MQ 16 true a 0) := by
  refine path_measured_up _ _ _ (Tot.congr ?_ (fun k _ _ => path_measured_q (lv k) k (gi a 0) (gr a 1) (gr a 2)))
  exact Tot.bind ((measure_iff hN 16 (Nat.le_refl _)).1 a 0 0 ha (by omega) (by omega) (by omega)) fun r hr => Tot.ret hr
theorem pRight_iff (a : List C) (ha : SmR BB a) (hz : sz 16 true a ≤ 64) : Tot (fun k _ _ => (lv k).path_Right (gi a 0) (gr a 1) (gr a 2)) (fun r => r = true ↔ okR 16 true a) := by
  refine path_Right_up _ _ _ (Tot.congr ?_ (fun k _ _ => path_Right_q (lv k) k (gi a 0) (gr a 1) (gr a 2)))
  exact Tot.bind (measured_iff hN a ha hz) fun r hr => Tot.ret hr.1
theorem pSize_iff (a : List C) (ha : SmR BB a) (hz : sz 16 true a ≤ 64) (ho : okR 16 true a) : Tot (fun k _ _ => (lv k).path_Size (gi a 0) (gr a 1) (gr a 2)) (fun r => r = (sz 16 true a : Int)) := by
  refine path_Size_up _ _ _ (Tot.congr ?_ (fun k _ _ => path_Size_q (lv k) k (gi a 0) (gr a 1) (gr a 2)))
  refine Tot.bind (measured_iff hN a ha hz) fun r hr => Tot.ret ?_
  have := hr.2 (hr.1.2 ho)
  omega
theorem rights_tot (p q : List C) (hp : SmR BB p) (hq : SmR BB q) : Tot (fun k _ _ => (lv k).oriellaw12_PathRights (gi p 0) (gr p 1) (gr p 2) (gi q 0) (gr q 1) (gr q 2)) (fun r => r = true) := by
  have aw : Tot (fun n _ _ => ((lv n).oriellaw12_awake).bind fun r => some r) (fun r => r = true) := Tot.bind awake_tot fun r hr => Tot.ret hr
  refine oriellaw12_PathRights_up _ _ _ _ _ _ (Tot.congr ?_ (fun k _ _ => oriellaw12_PathRights_q (lv k) k (gi p 0) (gr p 1) (gr p 2) (gi q 0) (gr q 1) (gr q 2)))
  refine Tot.bind awake_tot fun r hr => ?_
  subst hr
  obtain ⟨n, ⟨n1, n2⟩, N, hn⟩ := Size_tot p hp
  have tn : Tot (fun k _ _ => (lv k).orielref12_Size (gi p 0) (gr p 1) (gr p 2)) (fun x => x = n) := ⟨n, rfl, N, hn⟩
  refine Tot.f rfl (Tot.bind tn fun r3 h3 => Tot.cond (fun _ => aw) (fun c3 => Tot.bind (Size_tot q hq) fun r5 _ => Tot.cond (fun _ => aw) (fun _ => ?_)))
  subst h3
  have c3 : r3 ≤ 64 := by have := of_decide_eq_false c3; omega
  have hz : sz 16 true p ≤ 64 := by have := n1 c3 16; omega
  have tr := rRight_iff' p hp c3 tn
  refine Tot.bind (R := fun r => r = true ↔ okR 16 true p) (pRight_iff hN p hp hz) fun r7 h7 => Tot.bind tr fun r8 h8 => ?_
  have e78 : r7 = r8 := by
    cases r7 <;> cases r8
    · rfl
    · exact absurd (h7.2 (h8.1 rfl)) (by decide)
    · exact absurd (h8.2 (h7.1 rfl)) (by decide)
    · rfl
  subst e78
  refine Tot.f (by simp) (Tot.bind (psame_tot p q hp hq) fun r9 h9 => Tot.bind (rsame_tot p q hp hq) fun r10 h10 => ?_)
  have e910 : r9 = r10 := by
    have h9 : r9 = true ↔ Alike true p q := h9
    have h10 : r10 = true ↔ Alike true p q := h10
    cases r9 <;> cases r10
    · rfl
    · exact absurd (h9.2 (h10.1 rfl)) (by decide)
    · exact absurd (h10.2 (h9.1 rfl)) (by decide)
    · rfl
  subst e910
  refine Tot.f (by simp) (Tot.bind (psame_tot p p hp hp) fun r11 h11 => ?_)
  have h11 : r11 = true := (show r11 = true ↔ Alike true p p from h11).2 (Alike.refl _ _)
  subst h11
  refine Tot.f rfl (Tot.bind tr fun r12 h12 => Tot.cond (fun _ => Tot.ret rfl) (fun c => ?_))
  have ho : okR 16 true p := h12.1 (by simpa using c)
  refine Tot.bind (R := fun r => r = (sz 16 true p : Int)) (pSize_iff hN p hp hz ho) fun r13 h13 => Tot.bind tn fun r14 h14 => Tot.ret ?_
  rw [h13, h14, n2 c3 ho]
  simp
end
-- Giv
theorem ext_ok : CallsOK Try.prog extG := extG_ok any_ok
theorem noB_any (s : ByteArray) : (noB s 123 ∧ noB s 125) ↔ Go.Vm.U.hasB s = false := by
  rw [← Bool.not_eq_true, Go.Vm.U.hasB_iff]
  constructor
  · rintro ⟨h1, h2⟩ ⟨j, hj, h | h⟩
    · exact h1 j hj h
    · exact h2 j hj h
  · intro h
    exact ⟨fun j hj e => h ⟨j, hj, .inl e⟩, fun j hj e => h ⟨j, hj, .inr e⟩⟩
theorem pnamed_iff (s t : ByteArray) (hs : s.size ≤ 1048576) (ht : t.size ≤ 1048576) : Tot (fun k _ _ => (lv k).path_named s t) (fun r => r = true ↔ NameQ s t) := by
  have no : ¬ NameQ s t → Tot (fun _ _ _ => some false) (fun r => r = true ↔ NameQ s t) := fun h => Tot.ret ⟨fun e => (by cases e), fun e => absurd e h⟩
  have hany : anyV s ⟨#[123, 125]⟩ = some (Go.Vm.U.hasB s) := by
    unfold anyV
    rw [show ((⟨#[123, 125]⟩ : ByteArray).toList == Go.Vm.U.cs.toList) = true from str_eq.2 rfl, decide_eq_true hs]
    rfl
  refine path_named_up _ _ (Tot.congr ?_ (fun k _ _ => path_named_q (lv k) k s t))
  refine Tot.bind (pplain_tot t ht) fun r1 h1 => Tot.cond (fun c1 => Tot.bind (value_tot' t ht) fun r2 h2 => Tot.cond (fun c2 => Tot.bind (value_tot' s hs) fun r3 h3 => Tot.cond (fun c3 => ?_) (fun c3 => no fun h => ?_)) (fun c2 => no fun h => ?_)) (fun c1 => no fun h => ?_)
  · refine Tot.bind (R := fun x => x = Go.Vm.U.hasB s) ⟨_, rfl, 0, fun _ _ _ _ _ _ => hany⟩ fun r4 h4 => ?_
    subst h4
    refine Tot.cond (fun c4 => Tot.ret ?_) (fun c4 => no fun h => ?_)
    · have hb : Go.Vm.U.hasB s = false := by simpa using c4
      have hx : (!(s.toList == (⟨#[104, 116, 116, 112, 58, 47, 47, 119, 119, 119, 46, 119, 51, 46, 111, 114, 103, 47, 50, 48, 48, 48, 47, 120, 109, 108, 110, 115, 47]⟩ : ByteArray).toList)) = true ↔ s ≠ xmlns := by
        rw [Bool.not_eq_true', Bool.eq_false_iff, ne_eq, ne_eq, str_eq]
        exact Iff.rfl
      rw [hx]
      exact ⟨fun e => ⟨h1.1 c1, h2.1 c2, h3.1 c3, (noB_any s).2 hb, e⟩, fun e => e.2.2.2.2⟩
    · rw [(noB_any s).1 h.2.2.2.1] at c4; cases c4
  · rw [h3.2 h.2.2.1] at c3; cases c3
  · rw [h2.2 h.2.1] at c2; cases c2
  · rw [h1.2 h.1] at c1; cases c1
theorem pathRights_tot (p q : List C) (hp : SmR BB p) (hq : SmR BB q) : Tot (fun k _ _ => (lv k).oriellaw12_PathRights (gi p 0) (gr p 1) (gr p 2) (gi q 0) (gr q 1) (gr q 2)) (fun r => r = true) := rights_tot pnamed_iff p q hp hq
end Go.Vm.T
