/- The plain law. -/
import Derived.Test.YtmolhfmiihignaaDoorVmTbb
import Derived.Test.YtmolhfmiihignaaDoorVmPure
import Derived.Lib.ReplaceLaws
import Derived.Lib.CountLaws
/- What the document fixes. -/
set_option linter.unusedVariables false
set_option linter.unusedSimpArgs false
namespace Go.Vm.T
open Go Go.Vm Go.Proofs
set_option maxRecDepth 100000 in
theorem awake_at (m : Nat) : (lv (m + 40)).oriellaw13_awake = some true := by kernel_rfl
theorem awake13_tot : Tot (fun k _ _ => (lv k).oriellaw13_awake) (fun r => r = true) := ⟨true, rfl, 40, fun n _ _ hn _ _ => by
  obtain ⟨m, rfl⟩ : ∃ m, n = m + 40 := ⟨n - 40, by omega⟩
  exact awake_at m⟩
theorem ext_ok : CallsOK Tryd.prog extG := by
  apply extG_ok <;> first | exact trim_ok | exact cont_ok | exact cut_ok | exact any_ok | exact repl_ok
end Go.Vm.T
/- Two texts with a blank between are cut as the one, and the other. -/
set_option linter.unusedVariables false
set_option linter.unusedSimpArgs false
namespace Go.Vm.T
open Go Go.Vm Go.Proofs
attribute [local irreducible] lv oriellaw13_LexBack_b oriellaw13_LexBack_l0 oriellaw13_LexBack_l1 oriellaw13_awake_b lex_All_b lex_All_l0 lex_All_l1 utf_All_b utf_All_l0 utf_All_l1 utf_Rune_b utf_Rune_l0 utf_Rune_l1 utf_Rune_l2 utf_Rune_l3 utf_forms_b lex_Right_b lex_Right_l0 char_All_b char_All_l0 char_All_l1 utf_span_b lex_may_b char_Char_b char_Blank_b lex_Write_b lex_one_b name_Split_b name_Plain_b name_Plain_l0 char_in_b char_in_l0 lex_clark_b lex_quoted_b lex_quoted_l0 strings_HasPrefix_b char_Start_b lex_plain_b lex_plain_l0 stringslite_HasPrefix_b char_Part_b lex_word_b strings_CutPrefix_b stringslite_CutPrefix_b
theorem blank_cases {r : Int} (h : isBlank r = true) : r = 9 ∨ r = 10 ∨ r = 13 ∨ r = 32 := of_decide_eq_true h
theorem blank_part {r : Int} (h : isBlank r = true) : ¬ partP r ∧ ¬ startP r ∧ r ≠ 34 ∧ r ≠ 58 := by
  have := blank_cases h
  refine ⟨fun hp => ?_, fun hp => ?_, by omega, by omega⟩
  · unfold partP startP at hp; omega
  · unfold startP at hp; omega
theorem tw_stab {y : BL × Int} (h : isBlank y.2 = true) (V : RT) : ∀ t : RT, (t ++ y :: V).takeWhile (fun x => isPart x.2) = t.takeWhile (fun x => isPart x.2) := by
  intro t
  have np : ¬ isPart y.2 = true := fun e => (blank_part h).1 (isPart_iff.1 e)
  induction t with
  | nil => rw [List.nil_append, List.takeWhile_cons, if_neg np]; rfl
  | cons x t ih =>
    rw [List.cons_append, List.takeWhile_cons, List.takeWhile_cons, ih]
theorem plT_stab {y : BL × Int} (h : isBlank y.2 = true) (V T : RT) : plT (T ++ y :: V) = plT T := by
  cases T with
  | nil => show plT (y :: V) = []; rw [plT, if_neg fun e => (blank_part h).2.1 (isStart_iff.1 e)]
  | cons x t => show plT (x :: (t ++ y :: V)) = _; rw [plT, plT, tw_stab h]
theorem drop_stab {T : RT} (n : Nat) (h : n ≤ T.length) (W : RT) : (T ++ W).drop n = T.drop n ++ W := by
  rw [List.drop_append, show n - T.length = 0 by omega, List.drop_zero]
theorem plT_len (T : RT) : (plT T).length ≤ T.length := by
  have := congrArg List.length (plT_pre T)
  rw [List.length_append] at this
  omega
theorem tlT_stab {y : BL × Int} (hy : isBlank y.2 = true) (V R : RT) : tlT (R ++ y :: V) = tlT R := by
  cases R with
  | nil => show tlT (y :: V) = []; rw [tlT, if_neg (blank_part hy).2.2.2]
  | cons x R => show tlT (x :: (R ++ y :: V)) = _; rw [tlT, tlT, plT_stab hy]
theorem wdT_stab {y : BL × Int} (hy : isBlank y.2 = true) (V T : RT) : wdT (T ++ y :: V) = wdT T := by
  unfold wdT
  rw [plT_stab hy]
  have := plT_len T
  cases e : plT T with
  | nil => rfl
  | cons z w =>
    rw [e] at this
    dsimp only
    rw [drop_stab _ this, tlT_stab hy]
theorem allT_next {b : Nat} {T : RT} : allT (b + 1) T = match T.dropWhile (fun x => isBlank x.2) with
    | [] => some [⟨5, [], [], 0⟩]
    | x :: t => match oneT (x :: t) with
      | none => none
      | some (k, a, s, q) => (allT b q).map (⟨k, a, s, (flat (x :: t)).length⟩ :: ·) := rfl
theorem row_get {z : Nat} {l : List Pc} {i : Nat} (h : i < l.length) : (l.map (rowP z)).getD i [] = rowP z (l[i]'h) := by
  rw [List.getD_eq_getElem?_getD, List.getElem?_map, List.getElem?_eq_getElem h]
  rfl
-- k
/-- each quote twice -/
def dblB (l : List UInt8) : List UInt8 := l.flatMap fun b => if b = 34 then [34, 34] else [b]
theorem dblB_cons (b : UInt8) (l : List UInt8) : dblB (b :: l) = (if b = 34 then [34, 34] else [b]) ++ dblB l := by
  unfold dblB
  rw [List.flatMap_cons]
theorem dblB_app (l m : List UInt8) : dblB (l ++ m) = dblB l ++ dblB m := by
  unfold dblB
  rw [List.flatMap_append]
theorem dblB_len (l : List UInt8) : (dblB l).length ≤ 2 * l.length := by
  induction l with
  | nil => exact Nat.le_refl _
  | cons b l ih =>
    rw [dblB_cons, List.length_append, List.length_cons]
    split
    · simp only [List.length_cons, List.length_nil]; omega
    · simp only [List.length_cons, List.length_nil]; omega
theorem repl_dbl : ∀ s : List UInt8, Lib.replaceK [34] [34, 34] (Lib.count s [34]) s = dblB s := by
  intro s
  induction s with
  | nil => rfl
  | cons b l ih =>
    rw [dblB_cons]
    by_cases hb : b = 34
    · subst hb
      rw [if_pos rfl, Lib.count_cons_eq, Nat.add_comm, Lib.replaceK_hit _ _ _ _ 0 (by unfold Lib.index; rw [if_pos (by rfl)]; rfl)]
      simp only [List.take_zero, List.nil_append, List.length_cons, List.length_nil, Nat.zero_add, List.drop_succ_cons, List.drop_zero]
      rw [ih]
    · rw [if_neg hb, Lib.count_cons_ne _ _ _ hb]
      rcases Nat.eq_zero_or_pos (Lib.count l [34]) with h0 | h0
      · rw [h0] at ih ⊢
        show b :: l = [b] ++ dblB l
        rw [← ih]
        rfl
      · obtain ⟨i, hi⟩ := Lib.index_of_count h0
        obtain ⟨k, hk⟩ : ∃ k, Lib.count l [34] = k + 1 := ⟨Lib.count l [34] - 1, by omega⟩
        rw [hk] at ih ⊢
        have h1 : Lib.index (b :: l) [34] = ((i + 1 : Nat) : Int) := by
          have hp : ([34] : List UInt8).isPrefixOf (b :: l) = false := by
            simp only [List.isPrefixOf, Bool.and_true]
            exact beq_false_of_ne (Ne.symm hb)
          have hm : ((i : Int) == -1) = false := by rw [beq_eq_false_iff_ne]; omega
          unfold Lib.index
          rw [hp, hi, hm]
          simp
        rw [Lib.replaceK_hit _ _ _ _ _ h1, ← ih, Lib.replaceK_hit _ _ _ _ _ hi]
        simp [List.append_assoc]
theorem replV_dbl (l : BL) (hl : l.length ≤ 1048576) : Tot (fun _ _ _ => replV (bl l) (⟨#[34]⟩ : ByteArray) (⟨#[34, 34]⟩ : ByteArray)) (fun r => r = bl (dblB l)) := by
  have hc := Lib.count_le l [34]
  unfold replV
  rw [bl_size, bl_data]
  refine Tot.t ?_ (Tot.ret ?_)
  · rw [Bool.and_eq_true, Bool.and_eq_true, decide_eq_true_eq, decide_eq_true_eq, decide_eq_true_eq]
    refine ⟨⟨by omega, by decide⟩, ?_⟩
    show l.length + Lib.count (bl l).data.toList [34] * 2 ≤ _
    rw [bl_data]
    omega
  · show bl (Lib.replaceAll l [34] [34, 34]) = _
    unfold Lib.replaceAll Lib.replace Lib.replaceNum
    rw [if_neg (by decide), if_pos (.inl (by decide)), repl_dbl]
/-! pieces, written -/
def dblT (t : RT) : RT := t.flatMap fun x => if x.2 = 34 then [x, x] else [x]
theorem dblT_cons (x : BL × Int) (t : RT) : dblT (x :: t) = (if x.2 = 34 then [x, x] else [x]) ++ dblT t := by
  unfold dblT
  rw [List.flatMap_cons]
theorem dblB_no : ∀ {l : BL}, (34 : UInt8) ∉ l → dblB l = l := by
  intro l
  induction l with
  | nil => intro _; rfl
  | cons b l ih =>
    intro hno
    rw [dblB_cons, if_neg (fun e => hno (by rw [e]; exact List.mem_cons_self ..)), ih fun hm => hno (List.mem_cons_of_mem _ hm)]
    rfl
theorem dbl_T {t : RT} (h : Vt t) : dblB (flat t) = flat (dblT t) := by
  induction t with
  | nil => rfl
  | cons x t ih =>
    rw [flat_cons, dblB_app, dblT_cons, flat_app, ih h.tail]
    congr 1
    by_cases e : x.2 = 34
    · rw [if_pos e]
      have hx : x.1 = [34] := (byte_is h.head (b := 34) (by decide)).2 e
      show dblB x.1 = x.1 ++ (x.1 ++ [])
      rw [hx]; rfl
    · rw [if_neg e]
      show dblB x.1 = x.1 ++ []
      have hno : (34 : UInt8) ∉ x.1 := fun hm => e ((byte_is h.head (b := 34) (by decide)).1.1 hm)
      rw [List.append_nil]
      exact dblB_no hno
def cOf (b : UInt8) : BL × Int := ([b], (b.toNat : Int))
theorem Tx_c (b : UInt8) (h : b.toNat < 128) (hc : charP b.toNat) : Tx [cOf b] := ⟨fun x hx => by rw [List.mem_singleton.1 hx]; exact ch_ascii b h, fun x hx => by rw [List.mem_singleton.1 hx]; exact hc⟩
def wrT (k : Int) (a s : RT) : RT := if k = 2 then cOf 123 :: (s ++ cOf 125 :: a) else if k = 3 then cOf 34 :: (dblT a ++ [cOf 34]) else a
def plainT (t : RT) : Prop := t ≠ [] ∧ plT t = t
structure RP (k : Int) (a s : RT) : Prop where
  ta : Tx a
  ts : Tx s
  h : (k = 1 ∧ s = [] ∧ (plainT a ∨ ∃ p x q, a = p ++ x :: q ∧ x.2 = 58 ∧ plainT p ∧ plainT q)) ∨ (k = 2 ∧ plainT a ∧ ∀ y, y ∈ s → y.2 ≠ 123 ∧ y.2 ≠ 125) ∨ (k = 3 ∧ s = []) ∨ (k = 4 ∧ s = [] ∧ ((∃ x y, a = [x, y] ∧ x.2 = 58 ∧ y.2 = 58) ∨ ∃ x, a = [x] ∧ x.2 ∈ signs))
theorem dblT_tx {t : RT} (h : Tx t) : Tx (dblT t) := by
  have : ∀ x, x ∈ dblT t → x ∈ t := fun x hx => by
    unfold dblT at hx
    obtain ⟨y, hy, hm⟩ := List.mem_flatMap.1 hx
    split at hm
    · simp only [List.mem_cons, List.not_mem_nil, or_false, or_self] at hm; rw [hm]; exact hy
    · rw [List.mem_singleton.1 hm]; exact hy
  exact ⟨fun x hx => h.1 x (this x hx), fun x hx => h.2 x (this x hx)⟩
theorem Tx.cons {x : BL × Int} {t : RT} (h : Tx [x]) (h' : Tx t) : Tx (x :: t) := h.app h'
theorem wrT_tx {k : Int} {a s : RT} (h : RP k a s) : Tx (wrT k a s) := by
  unfold wrT
  split
  · exact (Tx_c 123 (by decide) (by unfold charP; simp)).cons (h.ts.app ((Tx_c 125 (by decide) (by unfold charP; simp)).cons h.ta))
  · split
    · exact (Tx_c 34 (by decide) (by unfold charP; simp)).cons ((dblT_tx h.ta).app (Tx_c 34 (by decide) (by unfold charP; simp)))
    · exact h.ta
theorem plain_head {t : RT} (h : plainT t) : ∃ x u, t = x :: u ∧ startP x.2 := by
  obtain ⟨h1, h2⟩ := h
  cases t with
  | nil => exact absurd rfl h1
  | cons x u =>
    refine ⟨x, u, rfl, ?_⟩
    rw [plT] at h2
    by_cases e : isStart x.2 = true
    · exact isStart_iff.1 e
    · rw [if_neg e] at h2; cases h2
theorem start_not {r : Int} (h : startP r) : r ≠ 123 ∧ r ≠ 34 ∧ r ≠ 58 ∧ r ∉ signs ∧ isBlank r = false := by
  unfold startP at h
  refine ⟨by omega, by omega, by omega, fun hm => ?_, decide_eq_false (by omega)⟩
  simp only [signs, List.mem_cons, List.not_mem_nil, or_false] at hm
  omega
theorem part_not {r : Int} (h : r = 58) : ¬ partP r ∧ ¬ startP r := by
  refine ⟨fun hp => ?_, fun hp => ?_⟩
  · unfold partP startP at hp; omega
  · unfold startP at hp; omega
theorem plT_colon {x : BL × Int} (h : x.2 = 58) (V T : RT) : plT (T ++ x :: V) = plT T := by
  have np : ¬ isPart x.2 = true := fun e => (part_not h).1 (isPart_iff.1 e)
  cases T with
  | nil => show plT (x :: V) = []; rw [plT, if_neg fun e => (part_not h).2 (isStart_iff.1 e)]
  | cons z t =>
    show plT (z :: (t ++ x :: V)) = _
    rw [plT, plT]
    have : ∀ t : RT, (t ++ x :: V).takeWhile (fun y => isPart y.2) = t.takeWhile (fun y => isPart y.2) := by
      intro t
      induction t with
      | nil => rw [List.nil_append, List.takeWhile_cons, if_neg np]; rfl
      | cons u t ih => rw [List.cons_append, List.takeWhile_cons, List.takeWhile_cons, ih]
    rw [this]
theorem wd_plain {a : RT} (h : plainT a) : wdT a = some a := by
  unfold wdT
  obtain ⟨h1, h2⟩ := h
  rw [h2]
  cases a with
  | nil => exact absurd rfl h1
  | cons y w =>
    dsimp only
    rw [List.drop_length]
    show some ((y :: w) ++ []) = _
    rw [List.append_nil]
theorem wd_two {p q : RT} {x : BL × Int} (hp : plainT p) (hx : x.2 = 58) (hq : plainT q) : wdT (p ++ x :: q) = some (p ++ x :: q) := by
  unfold wdT
  rw [plT_colon hx, hp.2]
  cases p with
  | nil => exact absurd rfl hp.1
  | cons y w =>
    dsimp only
    rw [List.drop_left, tlT, if_pos hx, hq.2]
    cases q with
    | nil => exact absurd rfl hq.1
    | cons z v => rfl
theorem oneT_word {a : RT} {y : BL × Int} (hy : isBlank y.2 = true) (V : RT) (hw : wdT a = some a) (hh : ∃ x u, a = x :: u ∧ startP x.2) : oneT (a ++ y :: V) = some (1, a, [], y :: V) := by
  obtain ⟨x, u, e, hs⟩ := hh
  obtain ⟨n1, n2, n3, n4, _⟩ := start_not hs
  subst e
  show oneT (x :: (u ++ y :: V)) = _
  rw [oneT, if_neg n1, if_neg n2, if_neg (fun e => n3 e.1), if_neg n4]
  have := wdT_stab hy V (x :: u)
  rw [List.cons_append] at this
  rw [this, hw, ← List.cons_append]
  dsimp only [Option.map_some]
  rw [List.drop_left]
theorem qC_cons {x : BL × Int} (h : x.2 ≠ 34) (t : RT) : qC (x :: t) = (qC t).map fun r => (x :: r.1, r.2) := by
  cases t with
  | nil => show qC [x] = none; rw [qC, if_neg h]
  | cons y t => rw [qC, if_neg h]
theorem qC_dbl {y : BL × Int} (hy : isBlank y.2 = true) (V : RT) : ∀ a : RT, qC (dblT a ++ cOf 34 :: y :: V) = some (a, y :: V) := by
  intro a
  induction a with
  | nil =>
    show qC (cOf 34 :: y :: V) = _
    rw [qC, if_pos (show (cOf 34).2 = 34 from rfl), if_neg (blank_part hy).2.2.1]
  | cons x a ih =>
    rw [dblT_cons]
    by_cases e : x.2 = 34
    · rw [if_pos e]
      show qC (x :: x :: (dblT a ++ cOf 34 :: y :: V)) = _
      rw [qC, if_pos e, if_pos e, ih]
      rfl
    · rw [if_neg e]
      show qC (x :: (dblT a ++ cOf 34 :: y :: V)) = _
      rw [qC_cons e, ih]
      rfl
theorem one_wr {k : Int} {a s : RT} (h : RP k a s) {y : BL × Int} (hy : isBlank y.2 = true) (V : RT) : oneT (wrT k a s ++ y :: V) = some (k, a, s, y :: V) := by
  unfold wrT
  rcases h.h with ⟨rfl, rfl, hn⟩ | ⟨rfl, hp, hs⟩ | ⟨rfl, rfl⟩ | ⟨rfl, rfl, hsg⟩
  · rw [if_neg (by decide), if_neg (by decide)]
    rcases hn with hp | ⟨p, x, q, rfl, hx, hp, hq⟩
    · exact oneT_word hy V (wd_plain hp) (plain_head hp)
    · obtain ⟨z, u, e, hz⟩ := plain_head hp
      exact oneT_word hy V (wd_two hp hx hq) ⟨z, u ++ x :: q, by rw [e]; rfl, hz⟩
  · rw [if_pos rfl]
    show oneT (cOf 123 :: ((s ++ cOf 125 :: a) ++ y :: V)) = _
    rw [oneT, if_pos (show (cOf 123).2 = 123 from rfl)]
    have e : ckT ((s ++ cOf 125 :: a) ++ y :: V) = some (a, s, y :: V) := by
      unfold ckT
      rw [List.append_assoc, List.cons_append, spl_app (fun z hz => (hs z hz).2) (show (cOf 125).2 = 125 from rfl)]
      dsimp only
      rw [plT_stab hy, hp.2, List.drop_left, if_neg (fun o => o.elim hp.1 fun ⟨z, hz, e⟩ => (hs z hz).1 e)]
    rw [e]; rfl
  · rw [if_neg (by decide), if_pos rfl]
    show oneT (cOf 34 :: ((dblT a ++ [cOf 34]) ++ y :: V)) = _
    rw [oneT, if_neg (show ¬ (cOf 34).2 = 123 by decide), if_pos (show (cOf 34).2 = 34 from rfl), List.append_assoc, List.singleton_append, qC_dbl hy]
    rfl
  · rw [if_neg (by decide), if_neg (by decide)]
    rcases hsg with ⟨x, z, rfl, hx, hz⟩ | ⟨x, rfl, hx⟩
    · show oneT (x :: z :: y :: V) = _
      rw [oneT, if_neg (by omega), if_neg (by omega), if_pos ⟨hx, colon_iff.2 ⟨z, _, rfl, hz⟩⟩]
      rfl
    · show oneT (x :: y :: V) = _
      have hm := hx
      simp only [signs, List.mem_cons, List.not_mem_nil, or_false] at hm
      rw [oneT, if_neg (by omega), if_neg (by omega), if_neg (fun e => by omega), if_pos hx]
theorem wr_head {k : Int} {a s : RT} (h : RP k a s) : ∃ x u, wrT k a s = x :: u ∧ isBlank x.2 = false := by
  unfold wrT
  rcases h.h with ⟨rfl, rfl, hn⟩ | ⟨rfl, hp, hs⟩ | ⟨rfl, rfl⟩ | ⟨rfl, rfl, hsg⟩
  · rw [if_neg (by decide), if_neg (by decide)]
    rcases hn with hp | ⟨p, x, q, rfl, hx, hp, hq⟩
    · obtain ⟨z, u, e, hz⟩ := plain_head hp
      exact ⟨z, u, e, (start_not hz).2.2.2.2⟩
    · obtain ⟨z, u, e, hz⟩ := plain_head hp
      exact ⟨z, u ++ x :: q, by rw [e]; rfl, (start_not hz).2.2.2.2⟩
  · rw [if_pos rfl]; exact ⟨_, _, rfl, by rfl⟩
  · rw [if_neg (by decide), if_pos rfl]; exact ⟨_, _, rfl, by rfl⟩
  · rw [if_neg (by decide), if_neg (by decide)]
    rcases hsg with ⟨x, z, rfl, hx, hz⟩ | ⟨x, rfl, hx⟩
    · exact ⟨x, [z], rfl, by unfold isBlank; exact decide_eq_false (by omega)⟩
    · refine ⟨x, [], rfl, ?_⟩
      simp only [signs, List.mem_cons, List.not_mem_nil, or_false] at hx
      exact decide_eq_false (by omega)
/-! all of them -/
def totT (B : RT) : List (Int × RT × RT) → RT
  | [] => []
  | p :: l => wrT p.1 p.2.1 p.2.2 ++ (B ++ totT B l)
def pcs (B : RT) : List (Int × RT × RT) → List Pc
  | [] => [⟨5, [], [], 0⟩]
  | p :: l => ⟨p.1, p.2.1, p.2.2, (flat (totT B (p :: l))).length⟩ :: pcs B l
theorem allT_blank {B : RT} (hB : ∀ x, x ∈ B → isBlank x.2 = true) (b : Nat) (T : RT) : allT b (B ++ T) = allT b T := by
  cases b with
  | zero => rfl
  | succ b =>
    rw [allT_next, allT_next]
    have : (B ++ T).dropWhile (fun x => isBlank x.2) = T.dropWhile fun x => isBlank x.2 := by
      induction B with
      | nil => rfl
      | cons x B ih =>
        rw [List.cons_append, List.dropWhile_cons, if_pos (hB x (List.mem_cons_self ..))]
        exact ih fun y hy => hB y (List.mem_cons_of_mem _ hy)
    rw [this]
theorem allT_tot {B : RT} (hB : ∀ x, x ∈ B → isBlank x.2 = true) (hne : B ≠ []) : ∀ (l : List (Int × RT × RT)) (b : Nat), (∀ p, p ∈ l → RP p.1 p.2.1 p.2.2) → (totT B l).length < b → allT b (totT B l) = some (pcs B l) := by
  intro l
  induction l with
  | nil =>
    intro b _ hb
    obtain ⟨b, rfl⟩ : ∃ c, b = c + 1 := ⟨b - 1, by omega⟩
    rfl
  | cons p l ih =>
    intro b hl hb
    obtain ⟨b, rfl⟩ : ∃ c, b = c + 1 := ⟨b - 1, by omega⟩
    have hp := hl p (List.mem_cons_self ..)
    obtain ⟨x, u, e, hx⟩ := wr_head hp
    have hlen : (totT B (p :: l)).length = (wrT p.1 p.2.1 p.2.2).length + (B.length + (totT B l).length) := by
      show (wrT p.1 p.2.1 p.2.2 ++ (B ++ totT B l)).length = _
      rw [List.length_append, List.length_append]
    have hwl : 0 < (wrT p.1 p.2.1 p.2.2).length := by rw [e]; exact Nat.succ_pos _
    cases hBc : B with
    | nil => exact absurd hBc hne
    | cons y V =>
      have hy := hB y (by rw [hBc]; exact List.mem_cons_self ..)
      have e1 : totT B (p :: l) = wrT p.1 p.2.1 p.2.2 ++ y :: (V ++ totT B l) := by
        show wrT p.1 p.2.1 p.2.2 ++ (B ++ totT B l) = _
        conv => lhs; arg 2; arg 1; rw [hBc]
        rfl
      have e2 : (totT B (p :: l)).dropWhile (fun x => isBlank x.2) = totT B (p :: l) := by
        rw [e1, e, List.cons_append, List.dropWhile_cons, if_neg (by rw [hx]; simp)]
      rw [← hBc]
      rw [allT_next, e2]
      have e3 := one_wr hp hy (V ++ totT B l)
      rw [← e1] at e3
      have e4 : ∃ z w, totT B (p :: l) = z :: w := by rw [e1, e]; exact ⟨_, _, rfl⟩
      obtain ⟨z, w, e4⟩ := e4
      have e5 : y :: (V ++ totT B l) = B ++ totT B l := by rw [hBc]; rfl
      rw [e5] at e3
      show (match totT B (p :: l) with
        | [] => some [⟨5, [], [], 0⟩]
        | x :: t => match oneT (x :: t) with
          | none => none
          | some (k, a, s, q) => (allT b q).map (⟨k, a, s, (flat (x :: t)).length⟩ :: ·)) = some (⟨p.1, p.2.1, p.2.2, (flat (totT B (p :: l))).length⟩ :: pcs B l)
      rw [e4] at e3 ⊢
      dsimp only
      rw [e3]
      dsimp only
      rw [allT_blank hB, ih b (fun q hq => hl q (List.mem_cons_of_mem _ hq)) (by omega)]
      rfl
-- z
theorem aux_T {t : RT} (h : Vt t) : ∀ (p : BL) (b : Nat), (flat t).length ≤ b → runesAux (bl (p ++ flat t)) b p.length = t.map (·.2) := by
  induction t with
  | nil =>
    intro p b _
    cases b with
    | zero => rfl
    | succ b => rw [runesAux, if_neg (by rw [bl_size, flat_nil, List.append_nil]; omega)]; rfl
  | cons x t ih =>
    intro p b hb
    have hp := h.head.pos
    have e := dec_T p (t := t) h.head
    rw [flat_cons, List.length_append] at hb
    obtain ⟨b, rfl⟩ : ∃ c, b = c + 1 := ⟨b - 1, by omega⟩
    rw [runesAux, if_pos (by rw [bl_size, List.length_append, flat_cons, List.length_append]; omega), e.1, e.2]
    have := ih h.tail (p ++ x.1) b (by omega)
    rw [List.append_assoc, List.length_append] at this
    rw [flat_cons, this]
    rfl
theorem tw_all {p : BL × Int → Bool} : ∀ {t : RT}, (∀ y, y ∈ t → p y = true) → t.takeWhile p = t := by
  intro t
  induction t with
  | nil => intro _; rfl
  | cons x t ih => intro h; rw [List.takeWhile_cons, if_pos (h x (List.mem_cons_self ..)), ih fun y hy => h y (List.mem_cons_of_mem _ hy)]
theorem plain_T {t : RT} (h : Vt t) (hp : plainP (bl (flat t))) : plainT t := by
  obtain ⟨h1, h2, h3⟩ := hp
  have e := aux_T h [] (flat t).length (Nat.le_refl _)
  rw [List.nil_append, List.length_nil] at e
  rw [bl_size] at h1 h2 h3
  rw [e] at h2 h3
  cases t with
  | nil => exact absurd rfl h1
  | cons x t =>
    refine ⟨by simp, ?_⟩
    have hs : startP x.2 := h2
    rw [plT, if_pos (isStart_iff.2 hs)]
    have : t.takeWhile (fun y => isPart y.2) = t := by
      have hall : ∀ y, y ∈ t → isPart y.2 = true := fun y hy => isPart_iff.2 (h3 _ (List.mem_map_of_mem (List.mem_cons_of_mem _ hy)))
      exact tw_all hall
    rw [this]
theorem split_T {t : RT} (h : Vt t) (hl : (flat t).length ≤ 1048576) : Tot (fun k _ _ => (lv k).name_Split (bl (flat t))) (fun r => r.2.2 = true → plainT t ∨ ∃ p x q, t = p ++ x :: q ∧ x.2 = 58 ∧ plainT p ∧ plainT q) := by
  have bad : ∀ {a b : ByteArray}, Tot (fun _ _ _ => some (a, b, false)) (fun r => r.2.2 = true → plainT t ∨ ∃ p x q, t = p ++ x :: q ∧ x.2 = 58 ∧ plainT p ∧ plainT q) := Tot.ret fun e => by cases e
  refine name_Split_up _ (Tot.congr ?_ (fun k _ _ => name_Split_q (lv k) k (bl (flat t))))
  refine Tot.bind (cutV_tot h hl ⟨#[58]⟩ 58 rfl (by decide)) fun r1 hr1 => ?_
  have e58 : (((58 : UInt8).toNat : Nat) : Int) = 58 := rfl
  rw [e58] at hr1
  cases e : spl 58 t with
  | none =>
    rw [e] at hr1
    subst hr1
    refine Tot.t rfl (Tot.bind (pplain_tot _ (by rw [bl_size]; exact hl)) fun r2 hr2 => Tot.cond (fun _ => bad) (fun c => Tot.f rfl (Tot.ret fun _ => .inl (plain_T h (hr2.1 (by simpa using c))))))
  | some pq =>
    obtain ⟨p, q⟩ := pq
    rw [e] at hr1
    subst hr1
    obtain ⟨x, e1, e2, e3⟩ := spl_some e
    have hvp : Vt p := fun y hy => h y (by rw [e1]; exact List.mem_append_left _ hy)
    have hvq : Vt q := fun y hy => h y (by rw [e1]; exact List.mem_append_right _ (List.mem_cons_of_mem _ hy))
    have hln : (flat t).length = (flat p).length + (x.1.length + (flat q).length) := by rw [e1, flat_app, flat_cons, List.length_append, List.length_append]
    refine Tot.f rfl (Tot.bind (pplain_tot _ (by rw [bl_size]; omega)) fun r4 hr4 => Tot.cond (fun _ => bad) (fun c4 => Tot.t rfl (Tot.bind (pplain_tot _ (by rw [bl_size]; omega)) fun r5 hr5 => Tot.cond (fun _ => bad) (fun c5 => Tot.ret fun _ => ?_))))
    exact .inr ⟨p, x, q, e1, e2, plain_T hvp (hr5.1 (by simpa using c5)), plain_T hvq (hr4.1 (by simpa using c4))⟩
theorem right_T (kd : Int) (t s : ByteArray) (n : Int) (ht : t.size ≤ 1048576) (hs : s.size ≤ 1048576) : Tot (fun j _ _ => (lv j).lex_Right kd t s n) (fun r => r = true → kd = 5 ∨ ∃ a b, RP kd a b ∧ t = bl (flat a) ∧ s = bl (flat b)) := by
  have bad : Tot (fun _ _ _ => some false) (fun r => r = true → kd = 5 ∨ ∃ a b, RP kd a b ∧ t = bl (flat a) ∧ s = bl (flat b)) := Tot.ret fun e => by cases e
  have l0 : ∀ (a b : RT), Tx a → Tx b → t = bl (flat a) → s = bl (flat b) → (kd ≠ 2 → s = ⟨#[]⟩) → Tot (fun j _ _ => lex_Right_l0 (lv j) j kd t s n) (fun r => r = true → kd = 5 ∨ ∃ a b, RP kd a b ∧ t = bl (flat a) ∧ s = bl (flat b)) := fun a b ha hb et es hk => by
    have hb0 : kd ≠ 2 → b = [] := fun h => by
      have e := hk h
      rw [es] at e
      exact (flat_nil_iff hb.1).1 (bl_inj (b := []) e)
    rw [et, bl_size] at ht
    refine Tot.congr ?_ (fun k p_ q_ => lex_Right_l0_q (lv k) k kd t s n )
    refine Tot.cond (fun c => ?_) (fun c => Tot.cond (fun c' => ?_) (fun c' => Tot.cond (fun c'' => ?_) (fun c'' => Tot.cond (fun d => ?_) (fun d => Tot.cond (fun d' => Tot.ret fun _ => .inl (eq_of_beq d')) (fun _ => bad)))))
    · have hk1 : kd = 1 := eq_of_beq c
      subst hk1
      rw [et]
      refine Tot.bind (split_T ha.1 ht) fun r1 hr1 => Tot.ret fun e => .inr ⟨a, b, ⟨ha, hb, .inl ⟨rfl, hb0 (by decide), hr1 e⟩⟩, rfl, es⟩
    · have hk2 : kd = 2 := eq_of_beq c'
      subst hk2
      rw [et]
      refine Tot.bind (pplain_tot _ (by rw [bl_size]; exact ht)) fun r2 hr2 => Tot.cond (fun p => ?_) (fun _ => Tot.ret fun e => (by cases e))
      refine Tot.bind (R := fun r => r = Go.Vm.U.hasB s) ?_ fun r3 hr3 => Tot.ret fun e => .inr ⟨a, b, ⟨ha, hb, .inr (.inl ⟨rfl, plain_T ha.1 (hr2.1 p), fun y hy => ?_⟩)⟩, rfl, es⟩
      · unfold anyV
        exact Tot.t (by rw [Bool.and_eq_true, decide_eq_true_eq]; exact ⟨str_eq.2 rfl, hs⟩) (Tot.ret rfl)
      · have hno : Go.Vm.U.hasB s = false := by rw [← hr3]; simpa using e
        unfold Go.Vm.U.hasB at hno
        rw [es, bl_data, List.any_eq_false] at hno
        have k2 : ∀ u : UInt8, u.toNat < 128 → (u = 123 ∨ u = 125) → y.2 ≠ u.toNat := fun u hu hor e => by
          have hm := (mem_flat hb.1 hu).2 ⟨y, hy, e⟩
          have := hno u hm
          rcases hor with rfl | rfl <;> simp at this
        exact ⟨k2 123 (by decide) (.inl rfl), k2 125 (by decide) (.inr rfl)⟩
    · have hk3 : kd = 3 := eq_of_beq c''
      subst hk3
      exact Tot.ret fun _ => .inr ⟨a, b, ⟨ha, hb, .inr (.inr (.inl ⟨rfl, hb0 (by decide)⟩))⟩, et, es⟩
    · have hk4 : kd = 4 := eq_of_beq d
      subst hk4
      have hbb := hb0 (by decide)
      refine Tot.cond (fun p => Tot.ret fun _ => .inr ⟨a, b, ⟨ha, hb, .inr (.inr (.inr ⟨rfl, hbb, .inl ?_⟩))⟩, et, es⟩) (fun p => Tot.cond (fun p' => ?_) (fun _ => Tot.ret fun e => (by cases e)))
      · have e1 : flat a = [58, 58] := by
          have := str_eq.1 p
          rw [et] at this
          exact bl_inj (b := [58, 58]) this
        have e2 : (flat a).take [(58 : UInt8)].length = [58] := by rw [e1]; rfl
        obtain ⟨x, u, e3, hx⟩ := (take1 ha.1 58 (by decide)).1 e2
        subst e3
        have hx1 : x.1 = [58] := (byte_is ha.1.head (b := 58) (by decide)).2 hx
        rw [flat_cons, hx1] at e1
        have e4 : flat u = [58] := by simpa using e1
        have e5 : (flat u).take [(58 : UInt8)].length = [58] := by rw [e4]; rfl
        obtain ⟨y, w, e6, hy⟩ := (take1 ha.1.tail 58 (by decide)).1 e5
        subst e6
        have hy1 : y.1 = [58] := (byte_is ha.1.tail.head (b := 58) (by decide)).2 hy
        rw [flat_cons, hy1] at e4
        have e7 : flat w = [] := by simpa using e4
        have e8 : w = [] := (flat_nil_iff ha.1.tail.tail).1 e7
        exact ⟨x, y, by rw [e8], hx, hy⟩
      · rw [et, bl_size] at p'
        have hl1 : (flat a).length = 1 := by have := eq_of_beq p'; omega
        cases ha' : a with
        | nil => rw [ha'] at hl1; cases hl1
        | cons x u =>
          subst ha'
          obtain ⟨c0, c1, h1, _, _⟩ := first_byte ha.1.head
          have hfl := flat_len ha.1.tail
          have hxu : u = [] := by
            have hlen := hl1
            rw [flat_cons, List.length_append, h1, List.length_cons] at hlen
            exact List.length_eq_zero_iff.1 (by omega)
          subst hxu
          have hf : flat [x] = [c0] := by
            have hlen := hl1
            have e : flat [x] = x.1 := List.append_nil _
            rw [e, h1, List.length_cons] at hlen
            rw [e, h1, List.length_eq_zero_iff.1 (show c1.length = 0 by omega)]
          have hx1 : x.1 = c0 :: [] := by
            have e : flat [x] = x.1 := List.append_nil _
            rw [← e, hf]
          rw [et]
          refine Tot.bind (signs_tot (flat [x]) hf) fun r4 hr4 => Tot.ret fun e => .inr ⟨[x], b, ⟨ha, hb, .inr (.inr (.inr ⟨rfl, hbb, .inr ⟨x, rfl, ?_⟩⟩))⟩, rfl, es⟩
          rw [hr4] at e
          exact (sgn_iff ha.1.head hx1).1 (of_decide_eq_true e)
  have mays : (kd ≠ 2 → s = ⟨#[]⟩) → Tot (fun j _ _ => ((lv j).lex_may t).bind fun r1 => cond (!r1) (some false) (((lv j).lex_may s).bind fun r2 => cond (!r2) (some false) (lex_Right_l0 (lv j) j kd t s n))) (fun r => r = true → kd = 5 ∨ ∃ a b, RP kd a b ∧ t = bl (flat a) ∧ s = bl (flat b)) := fun hk =>
    Tot.bind (value_tot' t ht) fun r1 hr1 => Tot.cond (fun _ => bad) (fun c1 => Tot.bind (value_tot' s hs) fun r2 hr2 => Tot.cond (fun _ => bad) (fun c2 => by
      obtain ⟨a, ha, et⟩ := okV_T (hr1.1 (by simpa using c1))
      obtain ⟨b, hb, es⟩ := okV_T (hr2.1 (by simpa using c2))
      exact l0 a b ha hb et es hk))
  refine lex_Right_up _ _ _ _ (Tot.congr ?_ (fun k _ _ => lex_Right_q (lv k) k kd t s n))
  refine Tot.cond (fun c => Tot.cond (fun _ => bad) (fun c' => mays fun _ => str_eq.1 (by simpa using c'))) (fun c => mays fun h => ?_)
  have : kd = 2 := by simpa using c
  exact absurd this h
theorem write_T {kd : Int} {a s : RT} (h : RP kd a s) (n : Int) (ha : (flat a).length ≤ 40) (hs : (flat s).length ≤ 40) : Tot (fun j _ _ => (lv j).lex_Write kd (bl (flat a)) (bl (flat s)) n) (fun r => r = bl (flat (wrT kd a s)) ∧ (flat (wrT kd a s)).length ≤ 82) := by
  have e1 : ∀ b : UInt8, (⟨#[b]⟩ : ByteArray) = bl [b] := fun _ => rfl
  refine lex_Write_up _ _ _ _ (Tot.congr ?_ (fun k _ _ => lex_Write_q (lv k) k kd (bl (flat a)) (bl (flat s)) n))
  unfold wrT
  refine Tot.cond (fun c => ?_) (fun c => Tot.cond (fun c' => ?_) (fun c' => ?_))
  · rw [if_pos (eq_of_beq c)]
    have e : flat (cOf 123 :: (s ++ cOf 125 :: a)) = (([123] ++ flat s) ++ [125]) ++ flat a := by
      rw [flat_cons, flat_app, flat_cons]; simp [cOf]
    rw [e1, e1, bl_app, bl_app, bl_app, bl_size, bl_size, bl_size, bl_size, bl_size, bl_size]
    simp only [List.length_append, List.length_singleton]
    repeat (refine Tot.t (decide_eq_true (by omega)) ?_)
    refine Tot.ret ⟨by rw [e], by rw [e]; simp only [List.length_append, List.length_singleton]; omega⟩
  · rw [if_neg (ne_of_beq_false c), if_pos (eq_of_beq c')]
    have e : flat (cOf 34 :: (dblT a ++ [cOf 34])) = ([34] ++ dblB (flat a)) ++ [34] := by
      rw [flat_cons, flat_app, dbl_T h.ta.1]; simp [cOf, flat]
    have hd := dblB_len (flat a)
    refine Tot.bind (replV_dbl (flat a) (by omega)) fun r1 hr1 => ?_
    subst hr1
    rw [e1, bl_app, bl_app, bl_size, bl_size, bl_size]
    simp only [List.length_append, List.length_singleton]
    repeat (refine Tot.t (decide_eq_true (by omega)) ?_)
    refine Tot.ret ⟨by rw [e], by rw [e]; simp only [List.length_append, List.length_singleton]; omega⟩
  · rw [if_neg (ne_of_beq_false c), if_neg (ne_of_beq_false c')]
    have fin : Tot (fun _ _ _ => some (bl (flat a))) (fun r => r = bl (flat a) ∧ (flat a).length ≤ 82) := Tot.ret ⟨rfl, by omega⟩
    refine Tot.cond (fun d => Tot.t d fin) (fun d => Tot.t ?_ fin)
    rcases h.h with ⟨rfl, _⟩ | ⟨rfl, _⟩ | ⟨rfl, _⟩ | ⟨rfl, _⟩
    · exact absurd rfl (ne_of_beq_false d)
    · exact absurd rfl (ne_of_beq_false c)
    · exact absurd rfl (ne_of_beq_false c')
    · rfl
theorem totT_app (B : RT) (l m : List (Int × RT × RT)) : totT B (l ++ m) = totT B l ++ totT B m := by
  induction l with
  | nil => rfl
  | cons p l ih =>
    show wrT p.1 p.2.1 p.2.2 ++ (B ++ totT B (l ++ m)) = (wrT p.1 p.2.1 p.2.2 ++ (B ++ totT B l)) ++ totT B m
    rw [ih]; simp only [List.append_assoc]
theorem totT_tx {B : RT} (hB : Tx B) {l : List (Int × RT × RT)} (h : ∀ p, p ∈ l → RP p.1 p.2.1 p.2.2) : Tx (totT B l) := by
  induction l with
  | nil => exact ⟨fun x hx => (by cases hx), fun x hx => by cases hx⟩
  | cons p l ih => exact (wrT_tx (h p (List.mem_cons_self ..))).app (hB.app (ih fun q hq => h q (List.mem_cons_of_mem _ hq)))
theorem pcs_len (B : RT) (l : List (Int × RT × RT)) : (pcs B l).length = l.length + 1 := by
  induction l with
  | nil => rfl
  | cons p l ih => show (pcs B l).length + 1 = _; rw [ih]; rfl
theorem pcs_get (B : RT) : ∀ (l : List (Int × RT × RT)) (i : Nat) (h : i < l.length) (h' : i < (pcs B l).length), (pcs B l)[i]'h' = ⟨(l[i]'h).1, (l[i]'h).2.1, (l[i]'h).2.2, (flat (totT B (l.drop i))).length⟩ := by
  intro l
  induction l with
  | nil => intro i h; exact absurd h (Nat.not_lt_zero _)
  | cons p l ih =>
    intro i h h'
    cases i with
    | zero => rfl
    | succ i =>
      have := ih i (by simpa using h) (by simpa [pcs] using h')
      exact this
theorem pcs_last (B : RT) : ∀ (l : List (Int × RT × RT)) (h' : l.length < (pcs B l).length), ((pcs B l)[l.length]'h').k = 5 := by
  intro l
  induction l with
  | nil => intro _; rfl
  | cons p l ih => intro h'; exact ih (by simpa [pcs] using h')
abbrev BB : Nat := 1048576
theorem same_row (z : Nat) (p : Pc) : (!((gi (rowP z p) 0 == p.k) && ((gs (rowP z p) 1 == bl (flat p.a)) && ((gs (rowP z p) 2 == bl (flat p.s)) && ((gi (rowP z p) 3 == gi (rowP z p) 3) && true))))) = false := by
  show (!((p.k == p.k) && ((bl (flat p.a) == bl (flat p.a)) && ((bl (flat p.s) == bl (flat p.s)) && (_ && true))))) = false
  simp [ba_eq]
structure BI (B : RT) (x0 : LL) (i : Nat) (v : ByteArray) (L : List (Int × RT × RT)) : Prop where
  n : L.length = i
  r : ∀ p, p ∈ L → RP p.1 p.2.1 p.2.2
  v : v = bl (flat (totT B L))
  z : (flat (totT B L)).length ≤ 100 * i
  e : ∀ (j : Nat) (h : j < L.length), gi (x0.getD j []) 0 = (L[j]'h).1 ∧ gs (x0.getD j []) 1 = bl (flat (L[j]'h).2.1) ∧ gs (x0.getD j []) 2 = bl (flat (L[j]'h).2.2)
theorem back_go (x0 : LL) (x1 : Int) (hx : SmL BB x0) (hn : x0.length ≤ 40) (B : RT) (hB : ∀ x, x ∈ B → isBlank x.2 = true) (hne : B ≠ []) (hBt : Tx B) (hBl : (flat B).length ≤ 2) (btw : ByteArray) (hbt : btw = bl (flat B)) : Tot (fun k _ _ => oriellaw13_LexBack_l0 (lv k) k x0 x1 k btw (⟨#[]⟩ : ByteArray) 0) (fun r => r = true) := by
  subst hbt
  refine Tot.in0 (Tot.loop (H := fun k p_ q_ v (w : ByteArray) => oriellaw13_LexBack_l0 (lv k) k x0 x1 p_ (bl (flat B)) w v) (n := x0.length) (fun i w => ∃ L, BI B x0 i w L) (by omega) (fun w hw => ?_) (fun i w hi hw next => ?_) _ 0 _ rfl (by omega) ⟨[], rfl, fun p hp => (by cases hp), rfl, Nat.le_refl _, fun j h => absurd h (Nat.not_lt_zero _)⟩)
  · obtain ⟨L, b⟩ := hw
    have hv := b.v
    subst hv
    have hT := totT_tx hBt b.r
    refine Tot.step0 (fun k p_ q_ => oriellaw13_LexBack_l0_q (lv k) k x0 x1 p_ _ _ _) ?_
    rw [bl_size]
    refine Tot.f (decide_eq_false (by omega)) (Tot.cond (fun _ => Tot.ret rfl) (fun c => ?_))
    have c := of_decide_eq_false c
    have hal := allT_tot hB hne L ((totT B L).length + 1) b.r (Nat.lt_succ_self _)
    refine Tot.bind (all_tot hT (by omega)) fun r3 h3 => ?_
    rw [hal] at h3
    have h3 : r3 = ((pcs B L).map (rowP (flat (totT B L)).length), ((flat (totT B L)).length : Int), 0) := h3
    subst h3
    have pl := pcs_len B L
    have bn := b.n
    simp only [List.length_map]
    refine Tot.f rfl (Tot.f (by rw [beq_self_eq_true]; rfl) (Tot.f ?_ ?_))
    · rw [wrap_id (x := (x0.length : Int) + 1) (by omega) (by omega), Bool.not_eq_false', beq_iff_eq]; omega
    refine Tot.in0 (Tot.loop (H := fun k p_ q_ v (_ : Unit) => oriellaw13_LexBack_l1 (lv k) k x0 x1 p_ v ((pcs B L).map (rowP (flat (totT B L)).length))) (n := x0.length) (fun _ _ => True) (by omega) (fun _ _ => ?_) (fun i _ hi _ next => ?_) _ 0 () rfl (by omega) trivial)
    · refine Tot.step0 (fun k p_ q_ => oriellaw13_LexBack_l1_q (lv k) k x0 x1 p_ _ _) ?_
      rw [List.length_map]
      refine Tot.f (decide_eq_false (by omega)) ?_
      repeat (refine Tot.t (decide_eq_true (by omega)) ?_)
      rw [Int.toNat_natCast, ← bn, row_get (by omega)]
      refine Tot.ret ?_
      show (((pcs B L)[L.length]'(by omega)).k == (5 : Int)) = true
      rw [pcs_last]; rfl
    · refine Tot.step0 (fun k p_ q_ => oriellaw13_LexBack_l1_q (lv k) k x0 x1 p_ _ _) ?_
      rw [List.length_map, Int.toNat_natCast, row_get (l := pcs B L) (i := i) (by omega), pcs_get B L i (by omega) (by omega)]
      repeat (refine Tot.t (decide_eq_true (by omega)) ?_)
      obtain ⟨g1, g2, g3⟩ := b.e i (by omega)
      rw [g1, g2, g3]
      refine Tot.f ?_ (Tot.cond (fun d => ?_) (fun d => next () trivial))
      · exact same_row _ _
      have d := of_decide_eq_true d
      repeat (refine Tot.t (decide_eq_true (by omega)) ?_)
      rw [wrap_id (x := (i : Int) - 1) (by omega) (by omega), show ((i : Int) - 1).toNat = i - 1 by omega, row_get (l := pcs B L) (i := i - 1) (by omega), pcs_get B L (i - 1) (by omega) (by omega)]
      repeat (refine Tot.t (decide_eq_true (by omega)) ?_)
      refine Tot.f (decide_eq_false ?_) (next () trivial)
      show ¬ (((flat (totT B L)).length : Int) - ((flat (totT B (L.drop i))).length : Nat) ≤ ((flat (totT B L)).length : Int) - ((flat (totT B (L.drop (i - 1)))).length : Nat))
      have e1 : L.drop (i - 1) = (L[i - 1]'(by omega)) :: L.drop i := by
        rw [List.drop_eq_getElem_cons (by omega), show i - 1 + 1 = i by omega]
      have e2 : (flat (totT B (L.drop (i - 1)))).length = (flat (wrT (L[i - 1]'(by omega)).1 (L[i - 1]'(by omega)).2.1 (L[i - 1]'(by omega)).2.2)).length + ((flat B).length + (flat (totT B (L.drop i))).length) := by
        rw [e1]
        show (flat (wrT _ _ _ ++ (B ++ totT B (L.drop i)))).length = _
        rw [flat_app, flat_app, List.length_append, List.length_append]
      have e3 : 0 < (flat B).length := by
        have := flat_len hBt.1
        have : 0 < B.length := List.length_pos_iff.2 hne
        omega
      omega
  · obtain ⟨L, b⟩ := hw
    have hv := b.v
    subst hv
    have g1 : (gs (x0.getD i []) 1).size ≤ 1048576 := (hx.get i).gs 1
    have g2 : (gs (x0.getD i []) 2).size ≤ 1048576 := (hx.get i).gs 2
    have bz := b.z
    have bn := b.n
    refine Tot.step0 (fun k p_ q_ => oriellaw13_LexBack_l0_q (lv k) k x0 x1 p_ _ _ _) ?_
    rw [Int.toNat_natCast]
    repeat (refine Tot.t (decide_eq_true (by omega)) ?_)
    refine Tot.bind (right_T _ _ _ _ g1 g2) fun r1 hr1 => Tot.cond (fun _ => Tot.ret rfl) (fun c1 => ?_)
    repeat (refine Tot.t (decide_eq_true (by omega)) ?_)
    refine Tot.cond (fun _ => Tot.ret rfl) (fun c5 => ?_)
    repeat (refine Tot.t (decide_eq_true (by omega)) ?_)
    refine Tot.cond (fun _ => Tot.ret rfl) (fun d1 => ?_)
    repeat (refine Tot.t (decide_eq_true (by omega)) ?_)
    refine Tot.cond (fun _ => Tot.ret rfl) (fun d2 => ?_)
    repeat (refine Tot.t (decide_eq_true (by omega)) ?_)
    have d1 := of_decide_eq_false d1
    have d2 := of_decide_eq_false d2
    rcases hr1 (by simpa using c1) with h5 | ⟨a, s, hR, ea, es⟩
    · exact absurd h5 (ne_of_beq_false c5)
    rw [ea, bl_size] at d1
    rw [es, bl_size] at d2
    rw [ea, es]
    refine Tot.bind (write_T hR _ (by omega) (by omega)) fun r2 ⟨hr2, hz2⟩ => ?_
    subst hr2
    rw [bl_app, bl_app, bl_size, bl_size, bl_size, bl_size, List.length_append]
    repeat (refine Tot.t (decide_eq_true (by omega)) ?_)
    have et : totT B (L ++ [(gi (x0.getD i []) 0, a, s)]) = totT B L ++ (wrT (gi (x0.getD i []) 0) a s ++ B) := by
      rw [totT_app]
      show totT B L ++ (wrT _ a s ++ (B ++ [])) = _
      rw [List.append_nil]
    refine next _ ⟨L ++ [(gi (x0.getD i []) 0, a, s)], by rw [List.length_append, bn]; rfl, fun p hp => ?_, ?_, ?_, fun j h => ?_⟩
    · rcases List.mem_append.1 hp with hp | hp
      · exact b.r p hp
      · rw [List.mem_singleton.1 hp]; exact hR
    · rw [et, flat_app, flat_app, List.append_assoc]
    · rw [et, flat_app, flat_app, List.length_append, List.length_append]; omega
    · rcases Nat.lt_or_ge j L.length with hj | hj
      · rw [List.getElem_append_left hj]; exact b.e j hj
      · have hj' : j = L.length := by rw [List.length_append, List.length_singleton] at h; omega
        subst hj'
        rw [List.getElem_append_right (Nat.le_refl _)]
        simp only [Nat.sub_self, List.getElem_cons_zero]
        rw [bn]
        exact ⟨rfl, ea, es⟩
theorem back_tot (x0 : LL) (x1 : Int) (hx : SmL BB x0) : Tot (fun k _ _ => (lv k).oriellaw13_LexBack x0 x1) (fun r => r = true) := by
  have aw : Tot (fun n _ _ => ((lv n).oriellaw13_awake).bind fun r => some r) (fun r => r = true) := Tot.bind awake13_tot fun r hr => Tot.ret hr
  refine oriellaw13_LexBack_up _ _ (Tot.congr ?_ (fun k _ _ => oriellaw13_LexBack_q (lv k) k x0 x1))
  refine Tot.bind awake13_tot fun r hr => ?_
  subst hr
  refine Tot.f rfl (Tot.cond (fun _ => aw) (fun c0 => ?_))
  have c0 := of_decide_eq_false c0
  have one_ : ∀ b : UInt8, b.toNat < 128 → charP b.toNat → Tx [cOf b] := Tx_c
  refine Tot.cond (fun _ => ?_) (fun _ => ?_)
  · exact back_go x0 x1 hx (by omega) [cOf 10, cOf 9] (fun x hx => by
      simp only [List.mem_cons, List.not_mem_nil, or_false] at hx
      rcases hx with rfl | rfl <;> rfl) (by simp) ((one_ 10 (by decide) (by unfold charP; simp)).cons (one_ 9 (by decide) (by unfold charP; simp))) (by decide) _ rfl
  · exact back_go x0 x1 hx (by omega) [cOf 32] (fun x hx => by rw [List.mem_singleton.1 hx]; rfl) (by simp) (one_ 32 (by decide) (by unfold charP; simp)) (by decide) _ rfl
end Go.Vm.T
