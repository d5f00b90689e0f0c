/- The plain law. -/
import Derived.Test.YtmolhfmiihignaaDoorVmTbb
import Derived.Test.YtmolhfmiihignaaDoorVmPure
/- What the document fixes. -/
set_option linter.unusedVariables false
set_option linter.unusedSimpArgs false
namespace Go.Vm.T
open Go Go.Vm Go.Proofs
set_option maxRecDepth 100000 in
theorem awake_at (m : Nat) : (lv (m + 40)).oriellaw13_awake = some true := by kernel_rfl
theorem awake13_tot : Tot (fun k _ _ => (lv k).oriellaw13_awake) (fun r => r = true) := ⟨true, rfl, 40, fun n _ _ hn _ _ => by
  obtain ⟨m, rfl⟩ : ∃ m, n = m + 40 := ⟨n - 40, by omega⟩
  exact awake_at m⟩
theorem ext_ok : CallsOK Tryd.prog extG := by
  apply extG_ok <;> first | exact trim_ok | exact cont_ok | exact cut_ok | exact any_ok | exact repl_ok
end Go.Vm.T
/- Two texts with a blank between are cut as the one, and the other. -/
set_option linter.unusedVariables false
set_option linter.unusedSimpArgs false
namespace Go.Vm.T
open Go Go.Vm Go.Proofs
attribute [local irreducible] lv oriellaw13_LexJoins_b oriellaw13_LexJoins_l0 oriellaw13_awake_b lex_All_b lex_All_l0 lex_All_l1 utf_All_b utf_All_l0 utf_All_l1 utf_Rune_b utf_Rune_l0 utf_Rune_l1 utf_Rune_l2 utf_Rune_l3 utf_forms_b lex_Right_b lex_Right_l0 char_All_b char_All_l0 char_All_l1 utf_span_b lex_may_b char_Char_b char_Blank_b lex_one_b name_Split_b name_Plain_b name_Plain_l0 char_in_b char_in_l0 lex_clark_b lex_quoted_b lex_quoted_l0 strings_HasPrefix_b char_Start_b lex_plain_b lex_plain_l0 stringslite_HasPrefix_b char_Part_b lex_word_b strings_CutPrefix_b stringslite_CutPrefix_b
theorem blank_cases {r : Int} (h : isBlank r = true) : r = 9 ∨ r = 10 ∨ r = 13 ∨ r = 32 := of_decide_eq_true h
theorem blank_part {r : Int} (h : isBlank r = true) : ¬ partP r ∧ ¬ startP r ∧ r ≠ 34 ∧ r ≠ 58 := by
  have := blank_cases h
  refine ⟨fun hp => ?_, fun hp => ?_, by omega, by omega⟩
  · unfold partP startP at hp; omega
  · unfold startP at hp; omega
theorem tw_stab {y : BL × Int} (h : isBlank y.2 = true) (V : RT) : ∀ t : RT, (t ++ y :: V).takeWhile (fun x => isPart x.2) = t.takeWhile (fun x => isPart x.2) := by
  intro t
  have np : ¬ isPart y.2 = true := fun e => (blank_part h).1 (isPart_iff.1 e)
  induction t with
  | nil => rw [List.nil_append, List.takeWhile_cons, if_neg np]; rfl
  | cons x t ih =>
    rw [List.cons_append, List.takeWhile_cons, List.takeWhile_cons, ih]
theorem plT_stab {y : BL × Int} (h : isBlank y.2 = true) (V T : RT) : plT (T ++ y :: V) = plT T := by
  cases T with
  | nil => show plT (y :: V) = []; rw [plT, if_neg fun e => (blank_part h).2.1 (isStart_iff.1 e)]
  | cons x t => show plT (x :: (t ++ y :: V)) = _; rw [plT, plT, tw_stab h]
theorem spl_stab {a : Int} {T p q : RT} (h : spl a T = some (p, q)) (W : RT) : spl a (T ++ W) = some (p, q ++ W) := by
  obtain ⟨x, h1, h2, h3⟩ := spl_some h
  rw [h1, List.append_assoc, List.cons_append]
  exact spl_app h3 h2 _
theorem drop_stab {T : RT} (n : Nat) (h : n ≤ T.length) (W : RT) : (T ++ W).drop n = T.drop n ++ W := by
  rw [List.drop_append, show n - T.length = 0 by omega, List.drop_zero]
theorem plT_len (T : RT) : (plT T).length ≤ T.length := by
  have := congrArg List.length (plT_pre T)
  rw [List.length_append] at this
  omega
theorem ckT_stab {t a s q : RT} (h : ckT t = some (a, s, q)) {y : BL × Int} (hy : isBlank y.2 = true) (V : RT) : ckT (t ++ y :: V) = some (a, s, q ++ y :: V) := by
  unfold ckT at h ⊢
  cases e : spl 125 t with
  | none => rw [e] at h; cases h
  | some pq =>
    obtain ⟨p, r⟩ := pq
    rw [spl_stab e (y :: V)]
    rw [e] at h
    dsimp only at h ⊢
    rw [plT_stab hy, drop_stab _ (plT_len r)]
    split at h
    · cases h
    · rename_i hn
      cases h
      rw [if_neg hn]
theorem qC_stab {y : BL × Int} (hy : isBlank y.2 = true) (V : RT) : ∀ (n : Nat) {t a q : RT}, t.length ≤ n → qC t = some (a, q) → qC (t ++ y :: V) = some (a, q ++ y :: V) := by
  have hy34 := (blank_part hy).2.2.1
  intro n
  induction n with
  | zero =>
    intro t a q hn h
    obtain rfl : t = [] := List.length_eq_zero_iff.1 (by omega)
    cases h
  | succ n ih =>
    intro t a q hn h
    match t, hn, h with
    | [], _, h => cases h
    | [x], _, h =>
      rw [qC] at h
      by_cases e : x.2 = 34
      · rw [if_pos e] at h; cases h
        show qC (x :: y :: V) = _
        rw [qC, if_pos e, if_neg hy34]
        rfl
      · rw [if_neg e] at h; cases h
    | x :: z :: t, hn, h =>
      have hn : t.length + 1 + 1 ≤ n + 1 := hn
      show qC (x :: z :: (t ++ y :: V)) = _
      rw [qC] at h ⊢
      by_cases e : x.2 = 34
      · rw [if_pos e] at h ⊢
        by_cases e2 : z.2 = 34
        · rw [if_pos e2] at h ⊢
          obtain ⟨⟨r1, r2⟩, h1, h2⟩ := Option.map_eq_some_iff.1 h
          cases h2
          rw [ih (by omega) h1]
          rfl
        · rw [if_neg e2] at h ⊢; cases h; rfl
      · rw [if_neg e] at h ⊢
        obtain ⟨⟨r1, r2⟩, h1, h2⟩ := Option.map_eq_some_iff.1 h
        cases h2
        have := ih (by show t.length + 1 ≤ n; omega) h1
        rw [List.cons_append] at this
        rw [this]
        rfl
theorem colon_stab {y : BL × Int} (hy : isBlank y.2 = true) (V t : RT) : colon (t ++ y :: V) = colon t := by
  cases t with
  | nil => exact decide_eq_false (blank_part hy).2.2.2
  | cons _ _ => rfl
theorem tlT_stab {y : BL × Int} (hy : isBlank y.2 = true) (V R : RT) : tlT (R ++ y :: V) = tlT R := by
  cases R with
  | nil => show tlT (y :: V) = []; rw [tlT, if_neg (blank_part hy).2.2.2]
  | cons x R => show tlT (x :: (R ++ y :: V)) = _; rw [tlT, tlT, plT_stab hy]
theorem wdT_stab {y : BL × Int} (hy : isBlank y.2 = true) (V T : RT) : wdT (T ++ y :: V) = wdT T := by
  unfold wdT
  rw [plT_stab hy]
  have := plT_len T
  cases e : plT T with
  | nil => rfl
  | cons z w =>
    rw [e] at this
    dsimp only
    rw [drop_stab _ this, tlT_stab hy]
theorem oneT_stab {T : RT} {k : Int} {a s q : RT} (h : oneT T = some (k, a, s, q)) {y : BL × Int} (hy : isBlank y.2 = true) (V : RT) : oneT (T ++ y :: V) = some (k, a, s, q ++ y :: V) := by
  cases T with
  | nil => cases h
  | cons x t =>
    show oneT (x :: (t ++ y :: V)) = _
    rw [oneT] at h ⊢
    by_cases c1 : x.2 = 123
    · rw [if_pos c1] at h ⊢
      obtain ⟨⟨r1, r2, r3⟩, h1, h2⟩ := Option.map_eq_some_iff.1 h
      cases h2
      rw [ckT_stab h1 hy]; rfl
    rw [if_neg c1] at h ⊢
    by_cases c2 : x.2 = 34
    · rw [if_pos c2] at h ⊢
      obtain ⟨⟨r1, r2⟩, h1, h2⟩ := Option.map_eq_some_iff.1 h
      cases h2
      rw [qC_stab hy V t.length (Nat.le_refl _) h1]; rfl
    rw [if_neg c2, colon_stab hy] at *
    by_cases c3 : x.2 = 58 ∧ colon t = true
    · rw [if_pos c3] at h ⊢
      cases h
      obtain ⟨z, t', e, _⟩ := colon_iff.1 c3.2
      subst e
      rfl
    rw [if_neg c3] at h ⊢
    by_cases c4 : x.2 ∈ signs
    · rw [if_pos c4] at h ⊢
      cases h; rfl
    rw [if_neg c4] at h ⊢
    obtain ⟨w, h1, h2⟩ := Option.map_eq_some_iff.1 h
    cases h2
    have := wdT_stab hy V (x :: t)
    rw [List.cons_append] at this
    rw [this, h1]
    have hl := congrArg List.length (wdT_pre h1).1
    rw [List.length_append] at hl
    rw [← List.cons_append]
    dsimp only [Option.map_some]
    rw [drop_stab a.length (by omega)]
theorem allT_next {b : Nat} {T : RT} : allT (b + 1) T = match T.dropWhile (fun x => isBlank x.2) with
    | [] => some [⟨5, [], [], 0⟩]
    | x :: t => match oneT (x :: t) with
      | none => none
      | some (k, a, s, q) => (allT b q).map (⟨k, a, s, (flat (x :: t)).length⟩ :: ·) := rfl
theorem dw_len (T : RT) : (T.dropWhile fun x => isBlank x.2).length ≤ T.length := by
  obtain ⟨B, hB⟩ := dw_pre T
  have := congrArg List.length hB
  rw [List.length_append] at this
  omega
theorem oneT_len {T : RT} {k : Int} {a s q : RT} (h : oneT T = some (k, a, s, q)) : q.length < T.length := by
  obtain ⟨c, hc, hn⟩ := oneT_pre h
  have := congrArg List.length hc
  have : 0 < c.length := List.length_pos_iff.2 hn
  rw [List.length_append] at *
  omega
theorem allT_fuel : ∀ (b b' : Nat) (T : RT), T.length < b → T.length < b' → allT b T = allT b' T := by
  intro b
  induction b with
  | zero => intro b' T h; omega
  | succ b ih =>
    intro b' T h h'
    obtain ⟨b', rfl⟩ : ∃ c, b' = c + 1 := ⟨b' - 1, by omega⟩
    have hl := dw_len T
    rw [allT_next, allT_next]
    cases e : T.dropWhile fun x => isBlank x.2 with
    | nil => rfl
    | cons x t =>
      rw [e] at hl
      dsimp only
      cases e1 : oneT (x :: t) with
      | none => rfl
      | some r =>
        obtain ⟨k, a, s, q⟩ := r
        have := oneT_len e1
        dsimp only
        rw [ih b' q (by omega) (by omega)]
def strip (p : Pc) : Int × RT × RT := (p.k, p.a, p.s)
theorem dw_app {y : BL × Int} (T V : RT) : (T ++ y :: V).dropWhile (fun x => isBlank x.2) = if (T.dropWhile fun x => isBlank x.2) = [] then (y :: V).dropWhile (fun x => isBlank x.2) else (T.dropWhile fun x => isBlank x.2) ++ y :: V := by
  induction T with
  | nil => rfl
  | cons x T ih =>
    rw [List.cons_append, List.dropWhile_cons, List.dropWhile_cons]
    by_cases h : isBlank x.2 = true
    · rw [if_pos h, if_pos h]; exact ih
    · rw [if_neg h, if_neg h, if_neg (by simp)]; rfl
theorem join_T {y : BL × Int} (hy : isBlank y.2 = true) {V : RT} {l2 : List Pc} {b2 : Nat} (h2 : allT b2 V = some l2) (hb2 : V.length < b2) : ∀ (b : Nat) (T : RT) (l1 : List Pc), allT b T = some l1 → ∀ b3, (T ++ y :: V).length < b3 → ∃ l3 m, allT b3 (T ++ y :: V) = some l3 ∧ l1 = m ++ [⟨5, [], [], 0⟩] ∧ l3.map strip = m.map strip ++ l2.map strip := by
  intro b
  induction b with
  | zero => intro T l1 h; cases h
  | succ b ih =>
    intro T l1 h b3 hb3
    obtain ⟨b3, rfl⟩ : ∃ c, b3 = c + 1 := ⟨b3 - 1, by omega⟩
    rw [List.length_append, List.length_cons] at hb3
    rw [allT_next] at h
    rw [allT_next, dw_app]
    have hl := dw_len T
    cases e : T.dropWhile fun x => isBlank x.2 with
    | nil =>
      rw [e] at h
      cases h
      rw [if_pos rfl, List.dropWhile_cons, if_pos hy, ← allT_next]
      refine ⟨l2, [], ?_, rfl, rfl⟩
      rw [allT_fuel (b3 + 1) b2 V (by omega) hb2, h2]
    | cons x t =>
      rw [e] at h hl
      dsimp only at h
      rw [if_neg (by simp), List.cons_append]
      dsimp only
      cases e1 : oneT (x :: t) with
      | none => rw [e1] at h; cases h
      | some r =>
        obtain ⟨k, a, s, q⟩ := r
        rw [e1] at h
        dsimp only at h
        have hq := oneT_len e1
        obtain ⟨l', h3, h4⟩ := Option.map_eq_some_iff.1 h
        subst h4
        obtain ⟨l3, m, h5, h6, h7⟩ := ih q l' h3 b3 (by rw [List.length_append, List.length_cons]; omega)
        have e2 := oneT_stab e1 hy V
        rw [List.cons_append] at e2
        rw [e2]
        dsimp only
        rw [h5]
        refine ⟨_, ⟨k, a, s, (flat (x :: t)).length⟩ :: m, rfl, by rw [h6]; rfl, ?_⟩
        rw [List.map_cons, h7]
        rfl
theorem row_get {z : Nat} {l : List Pc} {i : Nat} (h : i < l.length) : (l.map (rowP z)).getD i [] = rowP z (l[i]'h) := by
  rw [List.getD_eq_getElem?_getD, List.getElem?_map, List.getElem?_eq_getElem h]
  rfl
theorem strip_eq {z z' : Nat} {p p' : Pc} (h : strip p = strip p') : gi (rowP z p) 0 = gi (rowP z' p') 0 ∧ gs (rowP z p) 1 = gs (rowP z' p') 1 ∧ gs (rowP z p) 2 = gs (rowP z' p') 2 := by
  obtain ⟨k, a, s, _⟩ := p
  obtain ⟨k', a', s', _⟩ := p'
  cases h
  exact ⟨rfl, rfl, rfl⟩
theorem joins_tot (s t : ByteArray) (hs : s.size ≤ 1048576) (ht : t.size ≤ 1048576) : Tot (fun k _ _ => (lv k).oriellaw13_LexJoins s t) (fun r => r = true) := by
  have aw : Tot (fun n _ _ => ((lv n).oriellaw13_awake).bind fun r => some r) (fun r => r = true) := Tot.bind awake13_tot fun r hr => Tot.ret hr
  refine oriellaw13_LexJoins_up _ _ (Tot.congr ?_ (fun k _ _ => oriellaw13_LexJoins_q (lv k) k s t))
  refine Tot.bind awake13_tot fun r hr => ?_
  subst hr
  refine Tot.f rfl (Tot.cond (fun _ => aw) (fun c0 => Tot.cond (fun _ => aw) (fun c1 => Tot.cond (fun _ => aw) (fun c2 => ?_))))
  have c0 := of_decide_eq_false c0
  rw [wrap_id (by omega) (by omega)] at c0
  refine Tot.bind (allG_tot s hs) fun r6 h6 => Tot.bind (allG_tot t ht) fun r7 h7 => Tot.cond (fun _ => Tot.ret rfl) (fun d6 => Tot.cond (fun _ => Tot.ret rfl) (fun d7 => ?_))
  obtain ⟨_, T1, l1, x1, e1, a1, q1⟩ := h6 (by simpa using d6)
  obtain ⟨_, T2, l2, x2, e2, a2, q2⟩ := h7 (by simpa using d7)
  have hsp : Tx [([32], (32 : Int))] := ⟨fun x hx => by rw [List.mem_singleton.1 hx]; exact ch_ascii 32 (by decide), fun x hx => by rw [List.mem_singleton.1 hx]; unfold charP; simp⟩
  have hT : Tx (T1 ++ (([32], (32 : Int)) :: T2)) := x1.app (hsp.app x2)
  have e3 : (s ++ (⟨#[32]⟩ : ByteArray)) ++ t = bl (flat (T1 ++ (([32], (32 : Int)) :: T2))) := by
    rw [e1, e2, flat_app, flat_cons, show (⟨#[32]⟩ : ByteArray) = bl [32] from rfl, bl_app, bl_app, List.append_assoc]
  have z1 : s.size = (flat T1).length := by rw [e1, bl_size]
  have z2 : t.size = (flat T2).length := by rw [e2, bl_size]
  have z3 : (flat (T1 ++ (([32], (32 : Int)) :: T2))).length = (flat T1).length + (1 + (flat T2).length) := by rw [flat_app, flat_cons, List.length_append, List.length_append]; rfl
  have e4 : (s ++ (⟨#[32]⟩ : ByteArray)).size = s.size + 1 := by rw [e1, show (⟨#[32]⟩ : ByteArray) = bl [32] from rfl, bl_app, bl_size, bl_size, List.length_append]; rfl
  have e5 : (⟨#[32]⟩ : ByteArray).size = 1 := rfl
  rw [e4, e5]
  refine Tot.t (decide_eq_true (by omega)) (Tot.t (decide_eq_true (by omega)) ?_)
  obtain ⟨l3, m, b1, b2, b3⟩ := join_T (y := ([32], (32 : Int))) (by rfl) a2 (Nat.lt_succ_self _) _ _ _ a1 _ (Nat.lt_succ_self _)
  rw [e3]
  refine Tot.bind (all_tot hT (by omega)) fun r8 h8 => ?_
  rw [b1] at h8
  have h8 : r8 = (l3.map (rowP (flat (T1 ++ (([32], (32 : Int)) :: T2))).length), ((flat (T1 ++ (([32], (32 : Int)) :: T2))).length : Int), 0) := h8
  subst h8
  have n1 : l1.length = m.length + 1 := by rw [b2, List.length_append]; rfl
  have n3 : l3.length = m.length + l2.length := by
    have := congrArg List.length b3
    rw [List.length_append, List.length_map, List.length_map, List.length_map] at this
    exact this
  have s1 := flat_len x1.1
  have s2 := flat_len x2.1
  have bd : ∀ (b : Nat) (T : RT) (l : List Pc), allT b T = some l → l.length ≤ T.length + 1 := by
    intro b
    induction b with
    | zero => intro T l h; cases h
    | succ b ih =>
      intro T l h
      rw [allT_next] at h
      have hl := dw_len T
      cases e : T.dropWhile fun x => isBlank x.2 with
      | nil => rw [e] at h; cases h; simp
      | cons x t =>
        rw [e] at h hl
        dsimp only at h
        cases e1 : oneT (x :: t) with
        | none => rw [e1] at h; cases h
        | some r =>
          obtain ⟨k, a, s, q⟩ := r
          rw [e1] at h
          dsimp only at h
          have hq := oneT_len e1
          obtain ⟨l', h3, h4⟩ := Option.map_eq_some_iff.1 h
          subst h4
          have := ih q l' h3
          rw [List.length_cons]
          omega
  have k1 := bd _ _ _ a1
  have k2 := bd _ _ _ a2
  rw [q1, q2]
  simp only [List.length_map]
  refine Tot.f rfl (Tot.f ?_ ?_)
  · rw [wrap_id (x := (l1.length : Int) + l2.length) (by omega) (by omega), wrap_id (by omega) (by omega), Bool.not_eq_false', beq_iff_eq]
    omega
  refine Tot.in0 (Tot.loop (H := fun k p_ q_ v (_ : Unit) => oriellaw13_LexJoins_l0 (lv k) k s t p_ v (l1.map (rowP s.size)) (l2.map (rowP t.size)) (l3.map (rowP (flat (T1 ++ (([32], (32 : Int)) :: T2))).length))) (n := l3.length) (fun _ _ => True) (by omega) (fun _ _ => ?_) (fun i _ hi _ next => ?_) _ 0 () rfl (by omega) trivial)
  · refine Tot.step0 (fun k p_ q_ => oriellaw13_LexJoins_l0_q (lv k) k s t p_ _ _ _ _) ?_
    rw [List.length_map]
    exact Tot.f (decide_eq_false (by omega)) (Tot.ret rfl)
  · have hb : (l3.map strip)[i]? = (m.map strip ++ l2.map strip)[i]? := by rw [b3]
    rw [List.getElem?_map, List.getElem?_eq_getElem hi] at hb
    refine Tot.step0 (fun k p_ q_ => oriellaw13_LexJoins_l0_q (lv k) k s t p_ _ _ _ _) ?_
    rw [List.length_map, List.length_map, List.length_map, Int.toNat_natCast, row_get hi, wrap_id (x := (l1.length : Int) - 1) (by omega) (by omega)]
    repeat (refine Tot.t (decide_eq_true (by omega)) ?_)
    refine Tot.cond (fun c => ?_) (fun c => ?_)
    · have c := of_decide_eq_true c
      have him : i < m.length := by omega
      rw [List.getElem?_append_left (by rw [List.length_map]; exact him), List.getElem?_map, List.getElem?_eq_getElem him] at hb
      have he : strip l3[i] = strip (l1[i]'(by omega)) := by
        have : l1[i]'(by omega) = m[i] := by
          subst b2
          rw [List.getElem_append_left him]
        rw [this]
        exact Option.some.inj hb
      rw [row_get (l := l1) (i := i) (by omega)]
      obtain ⟨g1, g2, g3⟩ := strip_eq (z := (flat (T1 ++ (([32], (32 : Int)) :: T2))).length) (z' := s.size) he
      repeat (refine Tot.t (decide_eq_true (by omega)) ?_)
      rw [g1, g2, g3]
      exact Tot.f (by simp) (Tot.f (by simp) (Tot.f (by simp) (next () trivial)))
    · have c := of_decide_eq_false c
      have him : m.length ≤ i := by omega
      rw [List.getElem?_append_right (by rw [List.length_map]; exact him), List.length_map, List.getElem?_map, List.getElem?_eq_getElem (by omega)] at hb
      have he : strip l3[i] = strip (l2[i - m.length]'(by omega)) := Option.some.inj hb
      rw [wrap_id (x := (i : Int) - l1.length) (by omega) (by omega), wrap_id (by omega) (by omega), show ((i : Int) - (l1.length : Int) + 1).toNat = i - m.length by omega, row_get (l := l2) (i := i - m.length) (by omega)]
      obtain ⟨g1, g2, g3⟩ := strip_eq (z := (flat (T1 ++ (([32], (32 : Int)) :: T2))).length) (z' := t.size) he
      repeat (refine Tot.t (decide_eq_true (by omega)) ?_)
      rw [g1, g2, g3]
      exact Tot.f (by simp) (Tot.f (by simp) (Tot.f (by simp) (next () trivial)))
end Go.Vm.T
