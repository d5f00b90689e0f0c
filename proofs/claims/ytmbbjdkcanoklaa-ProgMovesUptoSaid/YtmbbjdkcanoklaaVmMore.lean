/- Where one comes by a machine's edges: the program and the document answer the same. -/
import Derived.Test.YtmbbjdkcanoklaaVmPure
/- Where one comes without a move: what the program answers. -/
set_option linter.unusedVariables false
set_option linter.unusedSimpArgs false
namespace Go.Vm.T
open Go Go.Vm Go.Proofs
attribute [local irreducible] lv oriellaw17_ProgCompiles_b oriellaw17_ProgMoves_b oriellaw17_ProgMoves_l0 oriellaw17_ProgMoves_l1 oriellaw17_ProgKeeps_b oriellaw17_ProgKeeps_l0 oriellaw17_ProgKeeps_l1 oriellaw17_ProgShapes_b oriellaw17_ProgShapes_l0 oriellaw17_ProgShapes_l1 oriellaw17_awake_b prog_Compile_b prog_maker_path_b prog_maker_step_b prog_maker_seq_b prog_maker_seq_l0 prog_maker_alt_b prog_maker_alt_l0 prog_maker_alt_l1 prog_maker_alt_l2 prog_maker_alt_l3 prog_maker_state_b prog_maker_lay_b prog_maker_free_b prog_Closure_b prog_Closure_l0 prog_Closure_l1 prog_Closure_l2 prog_Closure_l3 orielref12_Right_b orielref17_SameBits_b orielref17_SameBits_l0 orielref12_Size_b orielref12_size_b orielref12_size_l0 orielref12_size_l1 orielref12_sizeFilter_b orielref12_sizeFilter_l0 orielref12_sizeFilter_l1 prog_Moves_b prog_Moves_l0 orielref12_path_b orielref12_path_l0 orielref12_path_l1 orielref12_filter_b orielref12_filter_l0 orielref12_filter_l1 orielref12_filter_l2 orielref12_filter_l3 orielref12_filter_l4 orielref12_named_b orielref04_Right_b orielref04_Right_l0 orielref03_Plain_b orielref03_Plain_l0 orielref01_All_b orielref01_All_l0 orielref01_All_l1 orielref02_Start_b orielref01_Rune_b orielref01_Rune_l0 orielref01_Put_b orielref01_cut_b orielref01_cut_l0 orielref01_cut_l1 orielref01_cut_l2 orielref01_cut_l3 orielref01_cut_l4 orielref01_value_b orielref01_value_l0 orielref01_value_l1 orielref17_Compile_b orielref02_Char_b orielref02_Part_b orielref01_begins_b orielref01_begins_l0 orielref17_add_b orielref17_add_l0 orielref17_add_l1 orielref17_add_l2 orielref17_add_l3 orielref17_add_l4 orielref17_add_l5 orielref17_add_l6 orielref02_Blank_b orielref17_edge_b orielref05_Find_b orielref05_Find_l0 orielref17_Same_b orielref17_Same_l0 orielref17_Same_l1 oriellaw17_bits_b oriellaw17_bits_l0 oriellaw17_bits_l1 orielref12_SameFilter_b orielref12_SameFilter_l0 orielref12_SameFilter_l1 orielref12_Same_b orielref12_Same_l0 orielref12_Same_l1 orielref17_Closure_b orielref17_Closure_l0 orielref17_Closure_l1 orielref17_Closure_l2 orielref17_Moves_b orielref17_Moves_l0
def bt (out : List (List C)) (q : Int) : Bool := gb (out.getD q.toNat []) 0
def setT (out : List (List C)) (q : Int) : List (List C) := out.set q.toNat ((out.getD q.toNat []).set 0 (C.bool true))
def BOk (N : Int) (out : List (List C)) : Prop := (out.length : Int) = N ∧ ∀ r, r ∈ out → ∃ b, r = [C.bool b]
theorem bOk_set {N q : Int} {out : List (List C)} (h : BOk N out) (h0 : 0 ≤ q) (h1 : q < N) : BOk N (setT out q) := by
  obtain ⟨hl, hr⟩ := h
  have hlt : q.toNat < out.length := by omega
  refine ⟨by rw [setT, List.length_set]; exact hl, fun r hm => ?_⟩
  rcases List.mem_or_eq_of_mem_set hm with hm | rfl
  · exact hr r hm
  · obtain ⟨b, hb⟩ := hr _ (getD_mem (d := []) hlt)
    exact ⟨true, by rw [hb]; rfl⟩
theorem bt_set {N q p : Int} {out : List (List C)} (h : BOk N out) (h0 : 0 ≤ q) (h1 : q < N) (hp : 0 ≤ p) : bt (setT out q) p = (decide (p = q) || bt out p) := by
  obtain ⟨hl, hr⟩ := h
  have hlt : q.toNat < out.length := by omega
  obtain ⟨b, hb⟩ := hr _ (getD_mem (d := []) hlt)
  by_cases e : p = q
  · subst e
    rw [decide_eq_true rfl, Bool.true_or]
    unfold bt setT
    rw [hb, List.getD_eq_getElem?_getD, List.getElem?_set_self hlt]
    rfl
  · rw [decide_eq_false e, Bool.false_or]
    unfold bt setT
    rw [List.getD_eq_getElem?_getD, List.getElem?_set_ne (by omega), ← List.getD_eq_getElem?_getD]
def cnt (out : List (List C)) : Nat := out.countP fun r => !gb r 0
theorem cnt_set {N q : Int} {out : List (List C)} (h : BOk N out) (h0 : 0 ≤ q) (h1 : q < N) (hf : bt out q = false) : cnt (setT out q) + 1 = cnt out := by
  obtain ⟨hl, hr⟩ := h
  have hlt : q.toNat < out.length := by omega
  obtain ⟨b, hb⟩ := hr _ (getD_mem (d := []) hlt)
  have hg : out[q.toNat] = out.getD q.toNat [] := by rw [List.getD_eq_getElem?_getD, List.getElem?_eq_getElem hlt]; rfl
  have hpos : 0 < out.countP fun r => !gb r 0 := List.countP_pos_iff.2 ⟨_, getD_mem (d := []) hlt, by unfold bt at hf; rw [hf]; rfl⟩
  unfold cnt setT
  rw [List.countP_set hlt, hg, hb]
  unfold bt at hf
  rw [hb] at hf
  have e1 : (!gb [C.bool b] 0) = true := by rw [hf]; rfl
  have e2 : (!gb (List.set [C.bool b] 0 (C.bool true)) 0) = false := rfl
  rw [e1, e2]
  simp
  omega
section
variable (E hs fs : List (List C))
def en (r : List C) : Prop := gi r 2 = 0 ∨ (gi r 2 = 3 ∧ bt hs (gi r 3) = true)
inductive Reach : Int → Prop where
  | base {f : List C} : f ∈ fs → Reach (gi f 0)
  | step {r : List C} : Reach (gi r 0) → r ∈ E → en hs r → Reach (gi r 1)
structure MOk (N : Int) : Prop where
  n0 : 0 ≤ N
  n1 : N ≤ 1000
  e : E.length ≤ 1000
  ed : ∀ r, r ∈ E → 0 ≤ gi r 0 ∧ gi r 0 < N ∧ 0 ≤ gi r 1 ∧ gi r 1 < N ∧ (gi r 2 = 3 → 0 ≤ gi r 3 ∧ gi r 3 < hs.length)
  f : ∀ f, f ∈ fs → 0 ≤ gi f 0 ∧ gi f 0 < N
  fl : fs.length ≤ 1000000
def has (out W : List (List C)) (q : Int) : Prop := bt out q = true ∨ ∃ w, w ∈ W ∧ gi w 0 = q
/-- the walk's state: q's edges from the i-th on are still to be looked at -/
structure CInv (N : Int) (out W : List (List C)) (q : Int) (i : Nat) : Prop where
  ok : BOk N out
  sound : ∀ p, 0 ≤ p → bt out p = true → Reach E hs fs p
  wsound : ∀ w, w ∈ W → Reach E hs fs (gi w 0)
  base : ∀ f, f ∈ fs → has out W (gi f 0)
  cls : ∀ p r, 0 ≤ p → bt out p = true → r ∈ E → gi r 0 = p → en hs r → (p = q → r ∈ E.take i) → has out W (gi r 1)
def CloQ (N : Int) (out : List (List C)) : Prop := BOk N out ∧ ∀ q : Int, 0 ≤ q → (bt out q = true ↔ Reach E hs fs q)
end
variable {E hs fs : List (List C)} {N : Int}
theorem reach_range (h : MOk E hs fs N) {q : Int} (hr : Reach E hs fs q) : 0 ≤ q ∧ q < N := by
  cases hr with
  | base hf => exact h.f _ hf
  | step _ hr _ => have := h.ed _ hr; exact ⟨this.2.2.1, this.2.2.2.1⟩
theorem clo_end (h : MOk E hs fs N) {out : List (List C)} {q : Int} (hi : CInv E hs fs N out [] q E.length) : CloQ E hs fs N out := by
  have hh : ∀ p, has out [] p → bt out p = true := fun p hp => by
    rcases hp with hp | ⟨w, hw, _⟩
    · exact hp
    · cases hw
  refine ⟨hi.ok, fun p hp => ⟨hi.sound p hp, fun hr => ?_⟩⟩
  clear hp
  induction hr with
  | base hf => exact hh _ (hi.base _ hf)
  | step h1 h2 h3 ih => exact hh _ (hi.cls _ _ (reach_range h h1).1 ih h2 rfl h3 (fun _ => by rw [List.take_length]; exact h2))
/-- a state that is at hand is looked at: it is told already -/
theorem cinv_skip {out W : List (List C)} {w : List C} {q : Int} (hi : CInv E hs fs N out (w :: W) q E.length) (hb : bt out (gi w 0) = true) : CInv E hs fs N out W q E.length := by
  have hh : ∀ p, has out (w :: W) p → has out W p := fun p hp => by
    rcases hp with hp | ⟨x, hx, e⟩
    · exact .inl hp
    · rcases List.mem_cons.1 hx with rfl | hx
      · exact .inl (e ▸ hb)
      · exact .inr ⟨x, hx, e⟩
  exact ⟨hi.ok, hi.sound, fun x hx => hi.wsound x (List.mem_cons_of_mem _ hx), fun f hf => hh _ (hi.base f hf), fun p r a b c d e f => hh _ (hi.cls p r a b c d e f)⟩
theorem cinv_set (h : MOk E hs fs N) {out W : List (List C)} {w : List C} {q : Int} (hi : CInv E hs fs N out (w :: W) q E.length) : CInv E hs fs N (setT out (gi w 0)) W (gi w 0) 0 := by
  have hr := hi.wsound w List.mem_cons_self
  obtain ⟨h0, h1⟩ := reach_range h hr
  have hh : ∀ p, 0 ≤ p → has out (w :: W) p → has (setT out (gi w 0)) W p := fun p h2 hp => by
    rcases hp with hp | ⟨x, hx, e⟩
    · exact .inl (by rw [bt_set hi.ok h0 h1 h2, hp, Bool.or_true])
    · rcases List.mem_cons.1 hx with rfl | hx
      · exact .inl (by rw [bt_set hi.ok h0 h1 h2, decide_eq_true e.symm, Bool.true_or])
      · exact .inr ⟨x, hx, e⟩
  refine ⟨bOk_set hi.ok h0 h1, fun p h2 hp => ?_, fun x hx => hi.wsound x (List.mem_cons_of_mem _ hx), fun f hf => hh _ (h.f f hf).1 (hi.base f hf), fun p r a b c d e f => ?_⟩
  · rw [bt_set hi.ok h0 h1 h2] at hp
    by_cases e : p = gi w 0
    · rw [e]; exact hr
    · rw [decide_eq_false e, Bool.false_or] at hp
      exact hi.sound p h2 hp
  · have hne : p ≠ gi w 0 := fun e1 => by have := f e1; simp at this
    rw [bt_set hi.ok h0 h1 a, decide_eq_false hne, Bool.false_or] at b
    exact hh _ (h.ed r c).2.2.1 (hi.cls p r a b c d e (fun _ => by rw [List.take_length]; exact c))
theorem cinv_next {out W : List (List C)} {q : Int} {i : Nat} (hlt : i < E.length) (hi : CInv E hs fs N out W q i) (hno : ¬ (gi (E.getD i []) 0 = q ∧ en hs (E.getD i []))) : CInv E hs fs N out W q (i + 1) := by
  refine ⟨hi.ok, hi.sound, hi.wsound, hi.base, fun p r a b c d e f => hi.cls p r a b c d e fun e1 => ?_⟩
  have := f e1
  rw [List.take_add_one, List.getElem?_eq_getElem hlt] at this
  rcases List.mem_append.1 this with h | h
  · exact h
  · have h : r = E[i] := by simpa using h
    refine absurd ⟨?_, ?_⟩ hno
    · rw [List.getD_eq_getElem?_getD, List.getElem?_eq_getElem hlt, Option.getD_some, ← h, d, e1]
    · rw [List.getD_eq_getElem?_getD, List.getElem?_eq_getElem hlt, Option.getD_some, ← h]; exact e
theorem cinv_push {out W : List (List C)} {q : Int} {i : Nat} (hlt : i < E.length) (hq : bt out q = true) (hq0 : 0 ≤ q) (hi : CInv E hs fs N out W q i) (hf : gi (E.getD i []) 0 = q) (he : en hs (E.getD i [])) : CInv E hs fs N out (W ++ [[C.int .i64 (gi (E.getD i []) 1)]]) q (i + 1) := by
  have hh : ∀ p, has out W p → has out (W ++ [[C.int .i64 (gi (E.getD i []) 1)]]) p := fun p hp => by
    rcases hp with hp | ⟨x, hx, e⟩
    · exact .inl hp
    · exact .inr ⟨x, List.mem_append_left _ hx, e⟩
  refine ⟨hi.ok, hi.sound, fun x hx => ?_, fun f hf => hh _ (hi.base f hf), fun p r a b c d e f => ?_⟩
  · rcases List.mem_append.1 hx with hx | hx
    · exact hi.wsound x hx
    · rw [List.mem_singleton.1 hx]
      exact .step (hf ▸ hi.sound q hq0 hq) (getD_mem hlt) he
  · by_cases e1 : p = q
    · have := f e1
      rw [List.take_add_one, List.getElem?_eq_getElem hlt] at this
      rcases List.mem_append.1 this with h | h
      · exact hh _ (hi.cls p r a b c d e fun _ => h)
      · have h : r = E[i] := by simpa using h
        refine .inr ⟨_, List.mem_append_right _ (List.mem_singleton.2 rfl), ?_⟩
        rw [h, List.getD_eq_getElem?_getD, List.getElem?_eq_getElem hlt]
        rfl
    · exact hh _ (hi.cls p r a b c d e fun h => absurd h e1)
end Go.Vm.T
/- Where one comes without a move: the program's walk. -/
set_option linter.unusedVariables false
set_option linter.unusedSimpArgs false
namespace Go.Vm.T
open Go Go.Vm Go.Proofs
attribute [local irreducible] lv oriellaw17_ProgCompiles_b oriellaw17_ProgMoves_b oriellaw17_ProgMoves_l0 oriellaw17_ProgMoves_l1 oriellaw17_ProgKeeps_b oriellaw17_ProgKeeps_l0 oriellaw17_ProgKeeps_l1 oriellaw17_ProgShapes_b oriellaw17_ProgShapes_l0 oriellaw17_ProgShapes_l1 oriellaw17_awake_b prog_Compile_b prog_maker_path_b prog_maker_step_b prog_maker_seq_b prog_maker_seq_l0 prog_maker_alt_b prog_maker_alt_l0 prog_maker_alt_l1 prog_maker_alt_l2 prog_maker_alt_l3 prog_maker_state_b prog_maker_lay_b prog_maker_free_b prog_Closure_b prog_Closure_l0 prog_Closure_l1 prog_Closure_l2 prog_Closure_l3 orielref12_Right_b orielref17_SameBits_b orielref17_SameBits_l0 orielref12_Size_b orielref12_size_b orielref12_size_l0 orielref12_size_l1 orielref12_sizeFilter_b orielref12_sizeFilter_l0 orielref12_sizeFilter_l1 prog_Moves_b prog_Moves_l0 orielref12_path_b orielref12_path_l0 orielref12_path_l1 orielref12_filter_b orielref12_filter_l0 orielref12_filter_l1 orielref12_filter_l2 orielref12_filter_l3 orielref12_filter_l4 orielref12_named_b orielref04_Right_b orielref04_Right_l0 orielref03_Plain_b orielref03_Plain_l0 orielref01_All_b orielref01_All_l0 orielref01_All_l1 orielref02_Start_b orielref01_Rune_b orielref01_Rune_l0 orielref01_Put_b orielref01_cut_b orielref01_cut_l0 orielref01_cut_l1 orielref01_cut_l2 orielref01_cut_l3 orielref01_cut_l4 orielref01_value_b orielref01_value_l0 orielref01_value_l1 orielref17_Compile_b orielref02_Char_b orielref02_Part_b orielref01_begins_b orielref01_begins_l0 orielref17_add_b orielref17_add_l0 orielref17_add_l1 orielref17_add_l2 orielref17_add_l3 orielref17_add_l4 orielref17_add_l5 orielref17_add_l6 orielref02_Blank_b orielref17_edge_b orielref05_Find_b orielref05_Find_l0 orielref17_Same_b orielref17_Same_l0 orielref17_Same_l1 oriellaw17_bits_b oriellaw17_bits_l0 oriellaw17_bits_l1 orielref12_SameFilter_b orielref12_SameFilter_l0 orielref12_SameFilter_l1 orielref12_Same_b orielref12_Same_l0 orielref12_Same_l1 orielref17_Closure_b orielref17_Closure_l0 orielref17_Closure_l1 orielref17_Closure_l2 orielref17_Moves_b orielref17_Moves_l0
theorem sub_cons {todo W : List (List C)} {w : List C} {v1 v2 : Nat} (h : (todo.drop v1).take v2 = w :: W) (hl : v1 + v2 ≤ todo.length) : 0 < v2 ∧ todo.getD v1 [] = w ∧ (todo.drop (v1 + 1)).take (v2 - 1) = W := by
  have h2 : 0 < v2 := by
    rcases Nat.eq_zero_or_pos v2 with h0 | h0
    · rw [h0, List.take_zero] at h; cases h
    · exact h0
  obtain ⟨v, rfl⟩ : ∃ v, v2 = v + 1 := ⟨v2 - 1, by omega⟩
  cases hd : todo.drop v1 with
  | nil => rw [hd] at h; cases h
  | cons r rest =>
    obtain ⟨g1, g2, g3⟩ := drop_cons hd
    rw [hd, List.take_succ_cons] at h
    obtain ⟨h3, h4⟩ := List.cons.inj h
    exact ⟨h2, by rw [g2, h3], by rw [g3]; exact h4⟩
theorem isSl34 : isSl Try.prog 34 4 = true := by kernel_rfl
theorem bytes4 : Try.prog.bytesOf 4 ≤ 1024 := of_decide_eq_true (by kernel_rfl)
theorem clo_tot {n s e : Int} {E T fs hs : List (List C)} (hm : MOk E hs fs n) : Tot (fun k _ _ => (lv k).prog_Closure n s e E T fs hs) (CloQ E hs fs n) := by
  have hn0 := hm.n0
  have hn1 := hm.n1
  have hel := hm.e
  have inner : ∀ u' : Nat, (∀ out W q, cnt out = u' → CInv E hs fs n out W q E.length → W.length + 1000 * u' ≤ 3000000 →
        Tot (fun k a b => prog_Closure_l0 (lv k) k n s e E T fs hs a out W) (CloQ E hs fs n) ∧
        ∀ v1 v2 todo, (todo.drop v1).take v2 = W → v1 + v2 ≤ todo.length → todo.length ≤ 3000000 → Tot (fun k a b => prog_Closure_l1 (lv k) k n s e E T fs hs a v1 v2 out todo) (CloQ E hs fs n)) →
      ∀ (d i : Nat) (out W : List (List C)) (q : Int), E.length - i = d → i ≤ E.length → cnt out = u' → CInv E hs fs n out W q i → bt out q = true → 0 ≤ q → W.length + (E.length - i) + 1000 * u' ≤ 3000000 →
        Tot (fun k a b => prog_Closure_l3 (lv k) k n s e E T fs hs a b q i out W) (CloQ E hs fs n) ∧
        ∀ v1 v2 todo, (todo.drop v1).take v2 = W → v1 + v2 ≤ todo.length → todo.length ≤ 3000000 → Tot (fun k a b => prog_Closure_l2 (lv k) k n s e E T fs hs a b v1 v2 q i out todo) (CloQ E hs fs n) := by
    intro u' IH d
    induction d with
    | zero =>
      intro i out W q hd hi hc hinv hq hq0 hw
      obtain rfl : i = E.length := by omega
      obtain ⟨A, B⟩ := IH out W q hc hinv (by omega)
      constructor
      · refine Tot.step1 (fun k a b => prog_Closure_l3_q (lv k) k n s e E T fs hs a b q (E.length : Int) out W) ?_
        exact Tot.f (decide_eq_false (by omega)) A
      · intro v1 v2 todo h1 h2 h3
        refine Tot.step1 (fun k a b => prog_Closure_l2_q (lv k) k n s e E T fs hs a b v1 v2 q (E.length : Int) out todo) ?_
        exact Tot.f (decide_eq_false (by omega)) (B v1 v2 todo h1 h2 h3)
    | succ d ihd =>
      intro i out W q hd hi hc hinv hq hq0 hw
      have hlt : i < E.length := by omega
      have hin : ((i : Int) + 1) = ((i + 1 : Nat) : Int) := by omega
      have hed := hm.ed _ (getD_mem (d := []) hlt)
      have push : gi (E.getD i []) 0 = q → en hs (E.getD i []) → Tot (fun k a b => prog_Closure_l3 (lv k) k n s e E T fs hs a b q ((i + 1 : Nat) : Int) out (W ++ [[C.int .i64 (gi (E.getD i []) 1)]])) (CloQ E hs fs n) := fun hf he =>
        (ihd (i + 1) out _ q (by omega) (by omega) hc (cinv_push hlt hq hq0 hinv hf he) hq hq0 (by simp only [List.length_append, List.length_cons, List.length_nil]; omega)).1
      have next : ¬ (gi (E.getD i []) 0 = q ∧ en hs (E.getD i [])) → Tot (fun k a b => prog_Closure_l3 (lv k) k n s e E T fs hs a b q ((i + 1 : Nat) : Int) out W) (CloQ E hs fs n) ∧
        ∀ v1 v2 todo, (todo.drop v1).take v2 = W → v1 + v2 ≤ todo.length → todo.length ≤ 3000000 → Tot (fun k a b => prog_Closure_l2 (lv k) k n s e E T fs hs a b v1 v2 q ((i + 1 : Nat) : Int) out todo) (CloQ E hs fs n) := fun hno =>
        ihd (i + 1) out W q (by omega) (by omega) hc (cinv_next hlt hinv hno) hq hq0 (by omega)
      have bytes : Try.prog.bytesOf 3 ≤ 1024 := bytes3
      constructor
      · refine Tot.step1 (fun k a b => prog_Closure_l3_q (lv k) k n s e E T fs hs a b q (i : Int) out W) ?_
        rw [wrap_id (x := (i : Int) + 1) (by omega) (by omega), Int.toNat_natCast, hin]
        refine Tot.t (decide_eq_true (by omega)) (Tot.t (decide_eq_true (by omega)) (Tot.t (decide_eq_true (by omega)) ?_))
        refine Tot.cond (fun hf => ?_) (fun hf => (next fun h => ne_of_beq_false hf h.1).1)
        have hf := eq_of_beq hf
        refine Tot.cond (fun h2 => ?_) (fun h2 => ?_)
        · exact Tot.t (roomy_of bytes (by omega)) (push hf (.inl (eq_of_beq h2)))
        · have h2 := ne_of_beq_false h2
          refine Tot.cond (fun h3 => ?_) (fun h3 => (next fun h => ?_).1)
          · have h3 := eq_of_beq h3
            have ht := hed.2.2.2.2 h3
            refine Tot.t (decide_eq_true ht.1) (Tot.t (decide_eq_true ht.2) (Tot.cond (fun h4 => ?_) (fun h4 => (next fun h => ?_).1)))
            · exact Tot.t (roomy_of bytes (by omega)) (push hf (.inr ⟨h3, h4⟩))
            · rcases h.2 with h5 | ⟨_, h5⟩
              · exact h2 h5
              · have h5 : gb (hs.getD (gi (E.getD i []) 3).toNat []) 0 = true := h5
                rw [h4] at h5; cases h5
          · rcases h.2 with h5 | ⟨h5, _⟩
            · exact h2 h5
            · exact ne_of_beq_false h3 h5
      · intro v1 v2 todo g1 g2 g3
        have hwl : W.length = v2 := by rw [← g1, List.length_take, List.length_drop]; omega
        refine Tot.step1 (fun k a b => prog_Closure_l2_q (lv k) k n s e E T fs hs a b v1 v2 q (i : Int) out todo) ?_
        rw [wrap_id (x := (i : Int) + 1) (by omega) (by omega), Int.toNat_natCast, hin, g1]
        refine Tot.t (decide_eq_true (by omega)) (Tot.t (decide_eq_true (by omega)) (Tot.t (decide_eq_true (by omega)) ?_))
        refine Tot.cond (fun hf => ?_) (fun hf => (next fun h => ne_of_beq_false hf h.1).2 v1 v2 todo g1 g2 g3)
        have hf := eq_of_beq hf
        refine Tot.cond (fun h2 => ?_) (fun h2 => ?_)
        · exact Tot.t (roomy_of bytes (by omega)) (push hf (.inl (eq_of_beq h2)))
        · have h2 := ne_of_beq_false h2
          refine Tot.cond (fun h3 => ?_) (fun h3 => (next fun h => ?_).2 v1 v2 todo g1 g2 g3)
          · have h3 := eq_of_beq h3
            have ht := hed.2.2.2.2 h3
            refine Tot.t (decide_eq_true ht.1) (Tot.t (decide_eq_true ht.2) (Tot.cond (fun h4 => ?_) (fun h4 => (next fun h => ?_).2 v1 v2 todo g1 g2 g3)))
            · exact Tot.t (roomy_of bytes (by omega)) (push hf (.inr ⟨h3, h4⟩))
            · rcases h.2 with h5 | ⟨_, h5⟩
              · exact h2 h5
              · have h5 : gb (hs.getD (gi (E.getD i []) 3).toNat []) 0 = true := h5
                rw [h4] at h5; cases h5
          · rcases h.2 with h5 | ⟨h5, _⟩
            · exact h2 h5
            · exact ne_of_beq_false h3 h5
  have outer : ∀ u : Nat, ∀ W out q, cnt out = u → CInv E hs fs n out W q E.length → W.length + 1000 * u ≤ 3000000 →
        Tot (fun k a b => prog_Closure_l0 (lv k) k n s e E T fs hs a out W) (CloQ E hs fs n) ∧
        ∀ v1 v2 todo, (todo.drop v1).take v2 = W → v1 + v2 ≤ todo.length → todo.length ≤ 3000000 → Tot (fun k a b => prog_Closure_l1 (lv k) k n s e E T fs hs a v1 v2 out todo) (CloQ E hs fs n) := by
    intro u
    induction u using Nat.strongRecOn with
    | _ u IHu =>
      intro W
      induction W with
      | nil =>
        intro out q hc hinv _
        have hq := clo_end hm hinv
        constructor
        · refine Tot.step0 (fun k a b => prog_Closure_l0_q (lv k) k n s e E T fs hs a out []) ?_
          exact Tot.f rfl (Tot.ret hq)
        · intro v1 v2 todo g1 g2 _
          have hv2 : v2 = 0 := by
            have := congrArg List.length g1
            rw [List.length_take, List.length_drop] at this
            simp at this
            omega
          subst hv2
          refine Tot.step0 (fun k a b => prog_Closure_l1_q (lv k) k n s e E T fs hs a v1 0 out todo) ?_
          exact Tot.f rfl (Tot.ret hq)
      | cons w W ihW =>
        intro out q hc hinv hw
        simp only [List.length_cons] at hw
        have hr := reach_range hm (hinv.wsound w List.mem_cons_self)
        have hol : (out.length : Int) = n := hinv.ok.1
        have skip : bt out (gi w 0) = true → ∀ v1 v2 todo, (todo.drop v1).take v2 = W → v1 + v2 ≤ todo.length → todo.length ≤ 3000000 → Tot (fun k a b => prog_Closure_l1 (lv k) k n s e E T fs hs a v1 v2 out todo) (CloQ E hs fs n) := fun hb =>
          (ihW out q hc (cinv_skip hinv hb) (by omega)).2
        have set : bt out (gi w 0) = false → ∀ v1 v2 todo, (todo.drop v1).take v2 = W → v1 + v2 ≤ todo.length → todo.length ≤ 3000000 → Tot (fun k a b => prog_Closure_l2 (lv k) k n s e E T fs hs a k v1 v2 (gi w 0) 0 (setT out (gi w 0)) todo) (CloQ E hs fs n) := fun hb v1 v2 todo g1 g2 g3 => by
          have hcs := cnt_set hinv.ok hr.1 hr.2 hb
          have := (inner (cnt (setT out (gi w 0))) (fun out' W' q' a b c => IHu _ (by omega) W' out' q' a b c) _ 0 (setT out (gi w 0)) W (gi w 0) rfl (by omega) rfl (cinv_set hm hinv) (by rw [bt_set hinv.ok hr.1 hr.2 hr.1, decide_eq_true rfl, Bool.true_or]) hr.1 (by omega)).2 v1 v2 todo g1 g2 g3
          exact Tot.in1 this
        constructor
        · refine Tot.step0 (fun k a b => prog_Closure_l0_q (lv k) k n s e E T fs hs a out (w :: W)) ?_
          have hl : ((w :: W).length : Int) = W.length + 1 := by simp
          have g1 : ((w :: W).drop 1).take (((w :: W).length : Int).toNat - 1) = W := by
            rw [Int.toNat_natCast]
            simp
          have g2 : 1 + (((w :: W).length : Int).toNat - 1) ≤ (w :: W).length := by rw [Int.toNat_natCast]; simp; omega
          refine Tot.t (decide_eq_true (by omega)) (Tot.t (decide_eq_true (by omega)) (Tot.t (decide_eq_true (by omega)) (Tot.t (decide_eq_true (by omega)) (Tot.t (decide_eq_true (by omega)) ?_))))
          refine Tot.t (decide_eq_true hr.1) (Tot.t (decide_eq_true (by show gi w 0 < _; omega)) (Tot.cond (fun hb => skip hb _ _ _ g1 g2 (by simp; omega)) (fun hb => Tot.t (decide_eq_true hr.1) (Tot.t (decide_eq_true (by show gi w 0 < _; omega)) (set hb _ _ _ g1 g2 (by simp; omega))))))
        · intro v1 v2 todo g1 g2 g3
          obtain ⟨a1, a2, a3⟩ := sub_cons g1 g2
          refine Tot.step0 (fun k a b => prog_Closure_l1_q (lv k) k n s e E T fs hs a v1 v2 out todo) ?_
          rw [Nat.add_zero, a2, Int.toNat_natCast]
          refine Tot.t (decide_eq_true (by omega)) (Tot.t (decide_eq_true (by omega)) (Tot.t (decide_eq_true (by omega)) (Tot.t (decide_eq_true (by omega)) (Tot.t (decide_eq_true (by omega)) ?_))))
          refine Tot.t (decide_eq_true hr.1) (Tot.t (decide_eq_true (by omega)) (Tot.cond (fun hb => skip hb _ _ _ a3 (by omega) g3) (fun hb => Tot.t (decide_eq_true hr.1) (Tot.t (decide_eq_true (by omega)) (set hb _ _ _ a3 (by omega) g3)))))
  refine prog_Closure_up _ _ _ _ _ _ _ (Tot.congr ?_ (fun k _ _ => prog_Closure_q (lv k) k n s e E T fs hs))
  refine Tot.t (decide_eq_true hn0) (Tot.t (decide_eq_true (Int.le_refl _)) (Tot.both (roomy_of bytes4 (by omega)) isSl34 (Tot.t (roomy_of bytes3 (by have := hm.fl; omega)) ?_)))
  have hok : BOk n (List.replicate n.toNat [C.bool false]) := ⟨by rw [List.length_replicate]; omega, fun r hr => ⟨false, List.eq_of_mem_replicate hr⟩⟩
  have hb : ∀ p, bt (List.replicate n.toNat [C.bool false]) p = false := fun p => by
    unfold bt
    rw [List.getD_eq_getElem?_getD, List.getElem?_replicate]
    split <;> rfl
  have hc : cnt (List.replicate n.toNat [C.bool false]) ≤ n.toNat := by
    unfold cnt
    have := List.countP_le_length (p := fun r : List C => !gb r 0) (l := List.replicate n.toNat [C.bool false])
    rw [List.length_replicate] at this
    exact this
  exact Tot.in0 (outer _ fs _ 0 rfl ⟨hok, fun p _ h => (by rw [hb] at h; cases h), fun w hw => .base hw, fun f hf => .inr ⟨f, hf, rfl⟩, fun p r _ h => (by rw [hb] at h; cases h)⟩ (by have := hm.fl; omega)).1
end Go.Vm.T
/- Where one comes without a move: the document's rounds; by one move; the same truths. -/
set_option linter.unusedVariables false
set_option linter.unusedSimpArgs false
namespace Go.Vm.T
open Go Go.Vm Go.Proofs
attribute [local irreducible] lv oriellaw17_ProgCompiles_b oriellaw17_ProgMoves_b oriellaw17_ProgMoves_l0 oriellaw17_ProgMoves_l1 oriellaw17_ProgKeeps_b oriellaw17_ProgKeeps_l0 oriellaw17_ProgKeeps_l1 oriellaw17_ProgShapes_b oriellaw17_ProgShapes_l0 oriellaw17_ProgShapes_l1 oriellaw17_awake_b prog_Compile_b prog_maker_path_b prog_maker_step_b prog_maker_seq_b prog_maker_seq_l0 prog_maker_alt_b prog_maker_alt_l0 prog_maker_alt_l1 prog_maker_alt_l2 prog_maker_alt_l3 prog_maker_state_b prog_maker_lay_b prog_maker_free_b prog_Closure_b prog_Closure_l0 prog_Closure_l1 prog_Closure_l2 prog_Closure_l3 orielref12_Right_b orielref17_SameBits_b orielref17_SameBits_l0 orielref12_Size_b orielref12_size_b orielref12_size_l0 orielref12_size_l1 orielref12_sizeFilter_b orielref12_sizeFilter_l0 orielref12_sizeFilter_l1 prog_Moves_b prog_Moves_l0 orielref12_path_b orielref12_path_l0 orielref12_path_l1 orielref12_filter_b orielref12_filter_l0 orielref12_filter_l1 orielref12_filter_l2 orielref12_filter_l3 orielref12_filter_l4 orielref12_named_b orielref04_Right_b orielref04_Right_l0 orielref03_Plain_b orielref03_Plain_l0 orielref01_All_b orielref01_All_l0 orielref01_All_l1 orielref02_Start_b orielref01_Rune_b orielref01_Rune_l0 orielref01_Put_b orielref01_cut_b orielref01_cut_l0 orielref01_cut_l1 orielref01_cut_l2 orielref01_cut_l3 orielref01_cut_l4 orielref01_value_b orielref01_value_l0 orielref01_value_l1 orielref17_Compile_b orielref02_Char_b orielref02_Part_b orielref01_begins_b orielref01_begins_l0 orielref17_add_b orielref17_add_l0 orielref17_add_l1 orielref17_add_l2 orielref17_add_l3 orielref17_add_l4 orielref17_add_l5 orielref17_add_l6 orielref02_Blank_b orielref17_edge_b orielref05_Find_b orielref05_Find_l0 orielref17_Same_b orielref17_Same_l0 orielref17_Same_l1 oriellaw17_bits_b oriellaw17_bits_l0 oriellaw17_bits_l1 orielref12_SameFilter_b orielref12_SameFilter_l0 orielref12_SameFilter_l1 orielref12_Same_b orielref12_Same_l0 orielref12_Same_l1 orielref17_Closure_b orielref17_Closure_l0 orielref17_Closure_l1 orielref17_Closure_l2 orielref17_Moves_b orielref17_Moves_l0
theorem cnt_le : ∀ {l l' : List (List C)}, l.length = l'.length → (∀ i, gb (l.getD i []) 0 = true → gb (l'.getD i []) 0 = true) → cnt l' ≤ cnt l ∧ ((∃ i, i < l.length ∧ gb (l.getD i []) 0 = false ∧ gb (l'.getD i []) 0 = true) → cnt l' < cnt l) := by
  intro l
  induction l with
  | nil => intro l' h _; cases l' with
    | nil => exact ⟨Nat.le_refl _, fun ⟨i, hi, _⟩ => by simp at hi⟩
    | cons _ _ => simp at h
  | cons x l ih =>
    intro l' h hs
    cases l' with
    | nil => simp at h
    | cons y l' =>
      obtain ⟨h1, h2⟩ := ih (l' := l') (by simpa using h) (fun i => hs (i + 1))
      have h0 : gb x 0 = true → gb y 0 = true := hs 0
      unfold cnt at *
      rw [List.countP_cons, List.countP_cons]
      constructor
      · cases hx : gb x 0 with
        | true => rw [h0 hx]; simpa using h1
        | false => cases gb y 0 <;> simp <;> omega
      · rintro ⟨i, hi, ha, hb⟩
        cases i with
        | zero =>
          have ha : gb x 0 = false := ha
          have hb : gb y 0 = true := hb
          rw [ha, hb]
          simp
          omega
        | succ i =>
          have := h2 ⟨i, by simpa using hi, ha, hb⟩
          cases hx : gb x 0 with
          | true => rw [h0 hx]; simpa using this
          | false => cases gb y 0 <;> simp <;> omega
section
variable (E hs fs : List (List C)) (N : Int)
structure RInv (out : List (List C)) : Prop where
  ok : BOk N out
  sound : ∀ p, 0 ≤ p → bt out p = true → Reach E hs fs p
def sub (a b : List (List C)) : Prop := ∀ p, 0 ≤ p → bt a p = true → bt b p = true
end
variable {E hs fs : List (List C)} {N : Int}
theorem rinv_set (hm : MOk E hs fs N) {out : List (List C)} {q : Int} (h : RInv E hs fs N out) (hr : Reach E hs fs q) : RInv E hs fs N (setT out q) := by
  obtain ⟨h0, h1⟩ := reach_range hm hr
  refine ⟨bOk_set h.ok h0 h1, fun p hp hb => ?_⟩
  rw [bt_set h.ok h0 h1 hp] at hb
  by_cases e : p = q
  · rw [e]; exact hr
  · rw [decide_eq_false e, Bool.false_or] at hb
    exact h.sound p hp hb
theorem sub_set (hm : MOk E hs fs N) {out : List (List C)} {q : Int} (h : RInv E hs fs N out) (hr : Reach E hs fs q) : sub out (setT out q) := fun p hp hb => by
  obtain ⟨h0, h1⟩ := reach_range hm hr
  rw [bt_set h.ok h0 h1 hp, hb, Bool.or_true]
theorem clo_full {out : List (List C)} (hm : MOk E hs fs N) (h : RInv E hs fs N out) (hb : ∀ f, f ∈ fs → bt out (gi f 0) = true) (hc : ∀ r, r ∈ E → en hs r → bt out (gi r 0) = true → bt out (gi r 1) = true) : CloQ E hs fs N out := by
  refine ⟨h.ok, fun p hp => ⟨h.sound p hp, fun hr => ?_⟩⟩
  clear hp
  induction hr with
  | base hf => exact hb _ hf
  | step h1 h2 h3 ih => exact hc _ h2 h3 ih
theorem rclo_tot {n s e : Int} (hm : MOk E hs fs n) : Tot (fun k _ _ => (lv k).orielref17_Closure n s e E [] fs hs) (CloQ E hs fs n) ∧ ∀ T, Tot (fun k _ _ => (lv k).orielref17_Closure n s e E T fs hs) (CloQ E hs fs n) := by
  have key : ∀ T, Tot (fun k _ _ => (lv k).orielref17_Closure n s e E T fs hs) (CloQ E hs fs n) := by
    intro T
    have hn0 := hm.n0
    have hn1 := hm.n1
    have hel := hm.e
    have hfl := hm.fl
    -- one pass over the edges, from out0
    have pass : ∀ (v1 : Int) (out0 : List (List C)), (∀ out, RInv E hs fs n out → sub out0 out → (∀ r, r ∈ E → en hs r → bt out0 (gi r 0) = true → bt out (gi r 1) = true) → Tot (fun k a b => orielref17_Closure_l1 (lv k) k n s e E T fs hs a (IntKind.i64.wrap (v1 + 1)) out) (CloQ E hs fs n)) →
        ∀ (d i : Nat) (out : List (List C)), E.length - i = d → i ≤ E.length → RInv E hs fs n out → sub out0 out → (∀ r, r ∈ E.take i → en hs r → bt out0 (gi r 0) = true → bt out (gi r 1) = true) → Tot (fun k a b => orielref17_Closure_l2 (lv k) k n s e E T fs hs a b v1 i out) (CloQ E hs fs n) := by
      intro v1 out0 hend d
      induction d with
      | zero =>
        intro i out hd hi hr hsb hst
        obtain rfl : i = E.length := by omega
        refine Tot.step1 (fun k a b => orielref17_Closure_l2_q (lv k) k n s e E T fs hs a b v1 (E.length : Int) out) ?_
        rw [List.take_length] at hst
        exact Tot.f (decide_eq_false (by omega)) (hend out hr hsb hst)
      | succ d ihd =>
        intro i out hd hi hr hsb hst
        have hlt : i < E.length := by omega
        have hol : (out.length : Int) = n := hr.ok.1
        have hin : ((i : Int) + 1) = ((i + 1 : Nat) : Int) := by omega
        have hmem : E.getD i [] ∈ E := getD_mem hlt
        obtain ⟨f0, f1, t0, t1, hk⟩ := hm.ed _ hmem
        have htake : ∀ r, r ∈ E.take (i + 1) → r ∈ E.take i ∨ r = E.getD i [] := fun r h => by
          rw [List.take_add_one, List.getElem?_eq_getElem hlt] at h
          rcases List.mem_append.1 h with h | h
          · exact .inl h
          · exact .inr (by rw [List.getD_eq_getElem?_getD, List.getElem?_eq_getElem hlt]; simpa using h)
        have no : ¬ (en hs (E.getD i []) ∧ bt out (gi (E.getD i []) 0) = true) → Tot (fun k a b => orielref17_Closure_l2 (lv k) k n s e E T fs hs a b v1 ((i + 1 : Nat) : Int) out) (CloQ E hs fs n) := fun hno =>
          ihd (i + 1) out (by omega) (by omega) hr hsb fun r h he hb => by
            rcases htake r h with h | rfl
            · exact hst r h he hb
            · exact absurd ⟨he, hsb _ f0 hb⟩ hno
        have yes : en hs (E.getD i []) → bt out (gi (E.getD i []) 0) = true → Tot (fun k a b => orielref17_Closure_l2 (lv k) k n s e E T fs hs a b v1 ((i + 1 : Nat) : Int) (setT out (gi (E.getD i []) 1))) (CloQ E hs fs n) := fun he hb => by
          have hreach : Reach E hs fs (gi (E.getD i []) 1) := .step (hr.sound _ f0 hb) hmem he
          have hss := sub_set hm hr hreach
          refine ihd (i + 1) _ (by omega) (by omega) (rinv_set hm hr hreach) (fun p hp h => hss p hp (hsb p hp h)) fun r h he hb => ?_
          rcases htake r h with h | rfl
          · exact hss _ (hm.ed r (List.mem_of_mem_take h)).2.2.1 (hst r h he hb)
          · rw [bt_set hr.ok t0 t1 t0, decide_eq_true rfl, Bool.true_or]
        refine Tot.step1 (fun k a b => orielref17_Closure_l2_q (lv k) k n s e E T fs hs a b v1 (i : Int) out) ?_
        rw [wrap_id (x := (i : Int) + 1) (by omega) (by omega), Int.toNat_natCast, hin]
        refine Tot.t (decide_eq_true (by omega)) (Tot.t (decide_eq_true (by omega)) (Tot.t (decide_eq_true (by omega)) (Tot.t (decide_eq_true f0) (Tot.t (decide_eq_true (by omega)) ?_))))
        refine Tot.cond (fun hb => ?_) (fun hb => no fun h => ?_)
        · refine Tot.cond (fun h2 => ?_) (fun h2 => ?_)
          · exact Tot.t (decide_eq_true t0) (Tot.t (decide_eq_true (by omega)) (yes (.inl (eq_of_beq h2)) hb))
          · have h2 := ne_of_beq_false h2
            refine Tot.cond (fun h3 => ?_) (fun h3 => no fun h => ?_)
            · have h3 := eq_of_beq h3
              have ht := hk h3
              refine Tot.t (decide_eq_true ht.1) (Tot.t (decide_eq_true ht.2) (Tot.cond (fun h4 => Tot.t (decide_eq_true t0) (Tot.t (decide_eq_true (by omega)) (yes (.inr ⟨h3, h4⟩) hb))) (fun h4 => no fun h => ?_)))
              rcases h.1 with h5 | ⟨_, h5⟩
              · exact h2 h5
              · have h5 : gb (hs.getD (gi (E.getD i []) 3).toNat []) 0 = true := h5
                rw [h4] at h5; cases h5
            · rcases h.1 with h5 | ⟨h5, _⟩
              · exact h2 h5
              · exact ne_of_beq_false h3 h5
        · have h5 : gb (out.getD (gi (E.getD i []) 0).toNat []) 0 = true := h.2
          rw [hb] at h5; cases h5
    have rounds : ∀ (d : Nat) (v : Int) (out : List (List C)), 0 ≤ v → (n - v).toNat = d → RInv E hs fs n out → (∀ f, f ∈ fs → bt out (gi f 0) = true) → (CloQ E hs fs n out ∨ (cnt out : Int) ≤ n - v) → Tot (fun k a b => orielref17_Closure_l1 (lv k) k n s e E T fs hs a v out) (CloQ E hs fs n) := by
      intro d
      induction d with
      | zero =>
        intro v out hv hd hr hb hc
        refine Tot.step0 (fun k a b => orielref17_Closure_l1_q (lv k) k n s e E T fs hs a v out) ?_
        refine Tot.f (decide_eq_false (by omega)) (Tot.ret ?_)
        rcases hc with hc | hc
        · exact hc
        · have h0 : cnt out = 0 := by omega
          refine clo_full hm hr hb fun r hm' _ _ => ?_
          obtain ⟨_, _, t0, t1, _⟩ := hm.ed r hm'
          have hol : (out.length : Int) = n := hr.ok.1
          have h1 := List.countP_eq_zero.1 h0 _ (getD_mem (d := []) (show (gi r 1).toNat < out.length by omega))
          unfold bt
          simpa using h1
      | succ d ihd =>
        intro v out hv hd hr hb hc
        refine Tot.step0 (fun k a b => orielref17_Closure_l1_q (lv k) k n s e E T fs hs a v out) ?_
        refine Tot.t (decide_eq_true (by omega)) (Tot.in1 (pass v out (fun out' hr' hsb hst => ?_) _ 0 out rfl (by omega) hr (fun _ _ h => h) (fun r h => by simp at h)))
        rw [wrap_id (x := v + 1) (by omega) (by omega)]
        have hb' : ∀ f, f ∈ fs → bt out' (gi f 0) = true := fun f hf => hsb _ (hm.f f hf).1 (hb f hf)
        refine ihd (v + 1) out' (by omega) (by omega) hr' hb' ?_
        have hlen : out.length = out'.length := by have := hr.ok.1; have := hr'.ok.1; omega
        have hpt : ∀ i, gb (out.getD i []) 0 = true → gb (out'.getD i []) 0 = true := fun i h => by
          have := hsb (i : Int) (by omega) (by unfold bt; rw [Int.toNat_natCast]; exact h)
          unfold bt at this
          rwa [Int.toNat_natCast] at this
        obtain ⟨c1, c2⟩ := cnt_le hlen hpt
        rcases hc with hc | hc
        · exact .inl (clo_full hm hr' hb' fun r h1 h2 h3 => hsb _ (hm.ed r h1).2.2.1 ((hc.2 _ (hm.ed r h1).2.2.1).2 (.step ((hr'.sound _ (hm.ed r h1).1 h3)) h1 h2)))
        · by_cases hnew : ∃ i, i < out.length ∧ gb (out.getD i []) 0 = false ∧ gb (out'.getD i []) 0 = true
          · have := c2 hnew
            exact .inr (by omega)
          · refine .inl (clo_full hm hr' hb' fun r h1 h2 h3 => ?_)
            refine hst r h1 h2 ?_
            obtain ⟨f0, f1, _⟩ := hm.ed r h1
            have hol : (out.length : Int) = n := hr.ok.1
            cases h4 : bt out (gi r 0) with
            | true => rfl
            | false => exact absurd ⟨(gi r 0).toNat, by omega, h4, h3⟩ hnew
    have start : ∀ (d i : Nat) (out : List (List C)), fs.length - i = d → i ≤ fs.length → RInv E hs fs n out → (∀ f, f ∈ fs.take i → bt out (gi f 0) = true) → Tot (fun k a b => orielref17_Closure_l0 (lv k) k n s e E T fs hs a i out) (CloQ E hs fs n) := by
      intro d
      induction d with
      | zero =>
        intro i out hd hi hr hb
        obtain rfl : i = fs.length := by omega
        refine Tot.step0 (fun k a b => orielref17_Closure_l0_q (lv k) k n s e E T fs hs a (fs.length : Int) out) ?_
        rw [List.take_length] at hb
        have hol : (out.length : Int) = n := hr.ok.1
        have hcl : cnt out ≤ out.length := List.countP_le_length
        exact Tot.f (decide_eq_false (by omega)) (Tot.in0 (rounds _ 0 out (by omega) rfl hr hb (.inr (by omega))))
      | succ d ihd =>
        intro i out hd hi hr hb
        have hlt : i < fs.length := by omega
        have hol : (out.length : Int) = n := hr.ok.1
        have hin : ((i : Int) + 1) = ((i + 1 : Nat) : Int) := by omega
        have hmem : fs.getD i [] ∈ fs := getD_mem hlt
        obtain ⟨f0, f1⟩ := hm.f _ hmem
        refine Tot.step0 (fun k a b => orielref17_Closure_l0_q (lv k) k n s e E T fs hs a (i : Int) out) ?_
        rw [wrap_id (x := (i : Int) + 1) (by omega) (by omega), Int.toNat_natCast, hin]
        refine Tot.t (decide_eq_true (by omega)) (Tot.t (decide_eq_true (by omega)) (Tot.t (decide_eq_true (by omega)) (Tot.t (decide_eq_true f0) (Tot.t (decide_eq_true (by omega)) ?_))))
        have hreach : Reach E hs fs (gi (fs.getD i []) 0) := .base hmem
        refine ihd (i + 1) (setT out (gi (fs.getD i []) 0)) (by omega) (by omega) (rinv_set hm hr hreach) fun f hf => ?_
        rw [List.take_add_one, List.getElem?_eq_getElem hlt] at hf
        rcases List.mem_append.1 hf with hf | hf
        · exact sub_set hm hr hreach _ (hm.f f (List.mem_of_mem_take hf)).1 (hb f hf)
        · have hf : f = fs.getD i [] := by rw [List.getD_eq_getElem?_getD, List.getElem?_eq_getElem hlt]; simpa using hf
          subst hf
          rw [bt_set hr.ok f0 f1 f0, decide_eq_true rfl, Bool.true_or]
    refine orielref17_Closure_up _ _ _ _ _ _ _ (Tot.congr ?_ (fun k _ _ => orielref17_Closure_q (lv k) k n s e E T fs hs))
    refine Tot.t (decide_eq_true hn0) (Tot.t (decide_eq_true (Int.le_refl _)) (Tot.both (roomy_of bytes4 (by omega)) isSl34 ?_))
    have hok : BOk n (List.replicate n.toNat [C.bool false]) := ⟨by rw [List.length_replicate]; omega, fun r hr => ⟨false, List.eq_of_mem_replicate hr⟩⟩
    have hb : ∀ p, bt (List.replicate n.toNat [C.bool false]) p = false := fun p => by
      unfold bt
      rw [List.getD_eq_getElem?_getD, List.getElem?_replicate]
      split <;> rfl
    exact Tot.in0 (start _ 0 _ rfl (by omega) ⟨hok, fun p _ h => (by rw [hb] at h; cases h)⟩ (fun f hf => by simp at hf))
  exact ⟨key [], key⟩
theorem sameBits_tot (a b : List (List C)) (h : a.length = b.length) (hl : a.length ≤ 1000000) (hb : ∀ i, i < a.length → gb (a.getD i []) 0 = gb (b.getD i []) 0) : Tot (fun k _ _ => (lv k).orielref17_SameBits a b) (fun r => r = true) := by
  refine orielref17_SameBits_up _ _ (Tot.congr ?_ (fun k _ _ => orielref17_SameBits_q (lv k) k a b))
  rw [← h, beq_int]
  refine Tot.f rfl ?_
  have loop : ∀ (d i : Nat), a.length - i = d → i ≤ a.length → Tot (fun k x y => orielref17_SameBits_l0 (lv k) k a b x i) (fun r => r = true) := by
    intro d
    induction d with
    | zero =>
      intro i hd hi
      refine Tot.step0 (fun k x y => orielref17_SameBits_l0_q (lv k) k a b x (i : Int)) ?_
      exact Tot.f (decide_eq_false (by omega)) (Tot.ret rfl)
    | succ d ih =>
      intro i hd hi
      refine Tot.step0 (fun k x y => orielref17_SameBits_l0_q (lv k) k a b x (i : Int)) ?_
      have hin : ((i : Int) + 1) = ((i + 1 : Nat) : Int) := by omega
      rw [wrap_id (x := (i : Int) + 1) (by omega) (by omega), Int.toNat_natCast, hin, hb i (by omega)]
      refine Tot.t (decide_eq_true (by omega)) (Tot.t (decide_eq_true (by omega)) (Tot.t (decide_eq_true (by omega)) (Tot.t (decide_eq_true (by omega)) (Tot.t (decide_eq_true (by omega)) ?_))))
      exact Tot.f (by cases gb (b.getD i []) 0 <;> rfl) (ih (i + 1) (by omega) (by omega))
  exact Tot.in0 (loop _ 0 rfl (by omega))
end Go.Vm.T
/- A machine's edges lead from states to states; what is handed in stays. -/
set_option linter.unusedVariables false
set_option linter.unusedSimpArgs false
namespace Go.Vm.T
open Go Go.Vm Go.Proofs
attribute [local irreducible] lv oriellaw17_ProgCompiles_b oriellaw17_ProgMoves_b oriellaw17_ProgMoves_l0 oriellaw17_ProgMoves_l1 oriellaw17_ProgKeeps_b oriellaw17_ProgKeeps_l0 oriellaw17_ProgKeeps_l1 oriellaw17_ProgShapes_b oriellaw17_ProgShapes_l0 oriellaw17_ProgShapes_l1 oriellaw17_awake_b prog_Compile_b prog_maker_path_b prog_maker_step_b prog_maker_seq_b prog_maker_seq_l0 prog_maker_alt_b prog_maker_alt_l0 prog_maker_alt_l1 prog_maker_alt_l2 prog_maker_alt_l3 prog_maker_state_b prog_maker_lay_b prog_maker_free_b prog_Closure_b prog_Closure_l0 prog_Closure_l1 prog_Closure_l2 prog_Closure_l3 orielref12_Right_b orielref17_SameBits_b orielref17_SameBits_l0 orielref12_Size_b orielref12_size_b orielref12_size_l0 orielref12_size_l1 orielref12_sizeFilter_b orielref12_sizeFilter_l0 orielref12_sizeFilter_l1 prog_Moves_b prog_Moves_l0 orielref12_path_b orielref12_path_l0 orielref12_path_l1 orielref12_filter_b orielref12_filter_l0 orielref12_filter_l1 orielref12_filter_l2 orielref12_filter_l3 orielref12_filter_l4 orielref12_named_b orielref04_Right_b orielref04_Right_l0 orielref03_Plain_b orielref03_Plain_l0 orielref01_All_b orielref01_All_l0 orielref01_All_l1 orielref02_Start_b orielref01_Rune_b orielref01_Rune_l0 orielref01_Put_b orielref01_cut_b orielref01_cut_l0 orielref01_cut_l1 orielref01_cut_l2 orielref01_cut_l3 orielref01_cut_l4 orielref01_value_b orielref01_value_l0 orielref01_value_l1 orielref17_Compile_b orielref02_Char_b orielref02_Part_b orielref01_begins_b orielref01_begins_l0 orielref17_add_b orielref17_add_l0 orielref17_add_l1 orielref17_add_l2 orielref17_add_l3 orielref17_add_l4 orielref17_add_l5 orielref17_add_l6 orielref02_Blank_b orielref17_edge_b orielref05_Find_b orielref05_Find_l0 orielref17_Same_b orielref17_Same_l0 orielref17_Same_l1 oriellaw17_bits_b oriellaw17_bits_l0 oriellaw17_bits_l1 orielref12_SameFilter_b orielref12_SameFilter_l0 orielref12_SameFilter_l1 orielref12_Same_b orielref12_Same_l0 orielref12_Same_l1 orielref17_Closure_b orielref17_Closure_l0 orielref17_Closure_l1 orielref17_Closure_l2 orielref17_Moves_b orielref17_Moves_l0
def EdI (lo hi tl th : Int) (r : List C) : Prop := lo ≤ gi r 0 ∧ gi r 0 < hi ∧ lo ≤ gi r 1 ∧ gi r 1 < hi ∧ (gi r 2 = 3 → tl ≤ gi r 3 ∧ gi r 3 < th)
theorem EdI.mono {lo hi tl th lo' hi' tl' th' : Int} {r : List C} (h : EdI lo hi tl th r) (h1 : lo' ≤ lo) (h2 : hi ≤ hi') (h3 : tl' ≤ tl) (h4 : th ≤ th') : EdI lo' hi' tl' th' r := by
  obtain ⟨a, b, c, d, e⟩ := h
  exact ⟨by omega, by omega, by omega, by omega, fun h => by have := e h; omega⟩
theorem edI_st4 {lo hi tl th a b k t : Int} (h1 : lo ≤ a) (h2 : a < hi) (h3 : lo ≤ b) (h4 : b < hi) (h5 : k = 3 → tl ≤ t ∧ t < th) : EdI lo hi tl th (st4 a b k t) := ⟨h1, h2, h3, h4, h5⟩
structure Shp (n t : Int) (m : Mk) : Prop where
  ed : ∀ r, r ∈ m.E → EdI n m.n t (t + m.T.length) r
  s0 : n ≤ m.s
  s1 : m.s < m.n
  e0 : n ≤ m.e
  e1 : m.e < m.n
structure ShA (n t s : Int) (m : Al) : Prop where
  ed : ∀ r, r ∈ m.E → EdI n m.n t (t + m.T.length) r
  es : ∀ b, b ∈ m.es → n ≤ b ∧ b < m.n
  s0 : n ≤ s
  s1 : s < m.n
theorem seqF_shp {f : List C → Int → Int → Mk} {n t : Int} : ∀ {l : List (List C)} {m : Mk}, (∀ r, r ∈ l → ∀ n t, Shp n t (f r n t)) → Shp n t m → Shp n t (seqF f t l m) := by
  intro l
  induction l with
  | nil => intro m _ h; exact h
  | cons r l ih =>
    intro m hf hm
    have y := hf r List.mem_cons_self m.n (t + m.T.length)
    have h1 := hm.s0
    have h2 := hm.s1
    have h3 := hm.e0
    have h4 := hm.e1
    have h5 := y.s0
    have h6 := y.s1
    have h7 := y.e0
    have h8 := y.e1
    refine ih (fun r hr => hf r (List.mem_cons_of_mem _ hr)) ⟨fun x hx => ?_, h1, by show m.s < (f r m.n (t + m.T.length)).n; omega, by show n ≤ (f r m.n (t + m.T.length)).e; omega, h8⟩
    have hT : ((m.T ++ (f r m.n (t + m.T.length)).T).length : Int) = m.T.length + (f r m.n (t + m.T.length)).T.length := by simp
    show EdI n (f r m.n (t + m.T.length)).n t (t + ((m.T ++ (f r m.n (t + m.T.length)).T).length : Int)) x
    rw [hT]
    rcases List.mem_append.1 hx with hx | hx
    · exact (hm.ed x hx).mono (by omega) (by omega) (by omega) (by omega)
    · rcases List.mem_append.1 hx with hx | hx
      · exact (y.ed x hx).mono (by omega) (by omega) (by omega) (by omega)
      · rw [List.mem_singleton.1 hx]
        exact edI_st4 (by omega) (by omega) (by omega) (by omega) (fun h => by cases h)
theorem altF_shp {f : List C → Int → Int → Mk} {n t s : Int} : ∀ {l : List (List C)} {m : Al}, (∀ r, r ∈ l → ∀ n t, Shp n t (f r n t)) → ShA n t s m → ShA n t s (altF f t s l m) := by
  intro l
  induction l with
  | nil => intro m _ h; exact h
  | cons r l ih =>
    intro m hf hm
    have y := hf r List.mem_cons_self m.n (t + m.T.length)
    have h1 := hm.s0
    have h2 := hm.s1
    have h5 := y.s0
    have h6 := y.s1
    have h7 := y.e0
    have h8 := y.e1
    refine ih (fun r hr => hf r (List.mem_cons_of_mem _ hr)) ⟨fun x hx => ?_, fun b hb => ?_, h1, by show s < (f r m.n (t + m.T.length)).n; omega⟩
    · have hT : ((m.T ++ (f r m.n (t + m.T.length)).T).length : Int) = m.T.length + (f r m.n (t + m.T.length)).T.length := by simp
      show EdI n (f r m.n (t + m.T.length)).n t (t + ((m.T ++ (f r m.n (t + m.T.length)).T).length : Int)) x
      rw [hT]
      rcases List.mem_append.1 hx with hx | hx
      · exact (hm.ed x hx).mono (by omega) (by omega) (by omega) (by omega)
      · rcases List.mem_append.1 hx with hx | hx
        · exact (y.ed x hx).mono (by omega) (by omega) (by omega) (by omega)
        · rw [List.mem_singleton.1 hx]
          exact edI_st4 (by omega) (by omega) (by omega) (by omega) (fun h => by cases h)
    · show n ≤ b ∧ b < (f r m.n (t + m.T.length)).n
      rcases List.mem_append.1 hb with hb | hb
      · have := hm.es b hb; omega
      · rw [List.mem_singleton.1 hb]; omega
theorem mk_shp : ∀ (d : Nat) (op : Int) (subs tests : List (List C)) (n t : Int), POk d op subs tests → Shp n t (mk d op subs tests n t) := by
  intro d
  induction d with
  | zero => intro op subs tests n t h; exact h.elim
  | succ d ih =>
    intro op subs tests n t h
    obtain ⟨h1, h7, h45, h6, h77, ht, hl, h0, hsub⟩ := h
    have hf : ∀ r, r ∈ subs → ∀ n t, Shp n t (fr d r n t) := fun r hr n t => ih _ _ _ n t (hsub r hr)
    by_cases e4 : op = 4
    · cases subs with
      | nil => have := h45 (.inl e4); simp at this
      | cons r l => rw [mk_4 e4]; exact seqF_shp (fun r hr => hf r (List.mem_cons_of_mem _ hr)) (hf r List.mem_cons_self n t)
    · by_cases e5 : op = 5
      · rw [mk_5 e5]
        have a := altF_shp (l := subs) (n := n) (t := t) (s := n) (m := ⟨n + 1, [], [], []⟩) hf ⟨fun r hr => (by cases hr), fun b hb => (by cases hb), Int.le_refl _, by show n < n + 1; omega⟩
        have g1 := a.s1
        refine ⟨fun x hx => ?_, Int.le_refl _, by show n < (altF _ _ _ _ _).n + 1; omega, by show n ≤ (altF _ _ _ _ _).n; omega, by show (altF _ _ _ _ _).n < (altF _ _ _ _ _).n + 1; omega⟩
        rcases List.mem_append.1 hx with hx | hx
        · exact (a.ed x hx).mono (Int.le_refl _) (by show _ ≤ (altF _ _ _ _ _).n + 1; omega) (Int.le_refl _) (Int.le_refl _)
        · obtain ⟨b, hb, rfl⟩ := List.mem_map.1 hx
          have := a.es b hb
          exact edI_st4 (by omega) (by show b < (altF _ _ _ _ _).n + 1; omega) (by omega) (by show (altF _ _ _ _ _).n < (altF _ _ _ _ _).n + 1; omega) (fun h => by cases h)
      · by_cases e6 : op = 6
        · cases subs with
          | nil => have := h6 e6; simp at this
          | cons r l =>
            rw [mk_6 e6]
            have y := hf r List.mem_cons_self (n + 1) t
            have g1 := y.s0
            have g2 := y.s1
            have g3 := y.e0
            have g4 := y.e1
            refine ⟨fun x hx => ?_, Int.le_refl _, by show n < (fr d r (n + 1) t).n; omega, Int.le_refl _, by show n < (fr d r (n + 1) t).n; omega⟩
            rcases List.mem_append.1 hx with hx | hx
            · rcases List.mem_append.1 hx with hx | hx
              · exact (y.ed x hx).mono (by omega) (Int.le_refl _) (Int.le_refl _) (Int.le_refl _)
              · rw [List.mem_singleton.1 hx]
                exact edI_st4 (Int.le_refl _) (by show n < (fr d r (n + 1) t).n; omega) (by omega) g2 (fun h => by cases h)
            · rw [List.mem_singleton.1 hx]
              exact edI_st4 (by omega) g4 (Int.le_refl _) (by show n < (fr d r (n + 1) t).n; omega) (fun h => by cases h)
        · by_cases e7 : op = 7
          · rw [mk_7 e7]
            have htl := h77.1 e7
            refine ⟨fun x hx => ?_, Int.le_refl _, by show n < n + 2; omega, by show n ≤ n + 1; omega, by show n + 1 < n + 2; omega⟩
            rw [List.mem_singleton.1 hx]
            exact edI_st4 (Int.le_refl _) (by show n < n + 2; omega) (by omega) (by show n + 1 < n + 2; omega) (fun _ => ⟨Int.le_refl _, by show t < t + (tests.length : Int); omega⟩)
          · rw [mk_0 e4 e5 e6 e7]
            refine ⟨fun x hx => ?_, Int.le_refl _, by show n < n + 2; omega, by show n ≤ n + 1; omega, by show n + 1 < n + 2; omega⟩
            rw [List.mem_singleton.1 hx]
            refine edI_st4 (Int.le_refl _) (by show n < n + 2; omega) (by omega) (by show n + 1 < n + 2; omega) (fun h => ?_)
            unfold kindOf at h
            split at h
            · cases h
            · split at h <;> cases h
theorem mOk_mk {op : Int} {subs tests hs fs : List (List C)} (hok : POk 16 op subs tests) (hc : pc 16 subs ≤ 64) (hh : hs.length = (mk 16 op subs tests 0 0).T.length) (hf : ∀ f, f ∈ fs → 0 ≤ gi f 0 ∧ gi f 0 < (mk 16 op subs tests 0 0).n) (hl : fs.length ≤ 1000000) : MOk (mk 16 op subs tests 0 0).E hs fs (mk 16 op subs tests 0 0).n := by
  have b := mk_bd 16 op subs tests 0 0 hok
  have s := mk_shp 16 op subs tests 0 0 hok
  have b1 := b.lo
  have b2 := b.hi
  have b3 := b.e
  refine ⟨b1, by omega, by omega, fun r hr => ?_, hf, hl⟩
  obtain ⟨a1, a2, a3, a4, a5⟩ := s.ed r hr
  exact ⟨a1, a2, a3, a4, fun h => by have := a5 h; omega⟩
theorem keeps_tot (op : Int) (subs tests : List (List C)) (x : Int) (hs : SmL BB subs) (ht : SmL BB tests) (hx0 : 0 ≤ x) (hx1 : x < 256) : Tot (fun k _ _ => (lv k).oriellaw17_ProgKeeps op subs tests x) (fun r => r = true) := by
  refine oriellaw17_ProgKeeps_up _ _ _ _ (Tot.congr ?_ (fun k _ _ => oriellaw17_ProgKeeps_q (lv k) k op subs tests x))
  refine Tot.bind awake_tot fun r hr => ?_
  subst hr
  refine Tot.f rfl (Tot.bind (right_tot op subs tests hs ht) fun r hr => Tot.cond (fun _ => Tot.bind awake_tot fun r hr => Tot.ret hr) (fun hb => ?_))
  have hb : r = true := by simpa using hb
  obtain ⟨hok, hc⟩ := hr hb
  have hbd := mk_bd 16 op subs tests 0 0 hok
  have hsh := mk_shp 16 op subs tests 0 0 hok
  refine Tot.bind (compile_tot op subs tests hok (hc 16)) fun y hy => ?_
  subst hy
  refine Tot.bind (compile_tot op subs tests hok (hc 16)) fun y hy => ?_
  subst hy
  have hpc := hc 16
  have hrc := rcompile_tot op subs tests hok (hc 16)
  have hme : ∀ hs fs : List (List C), hs.length = (mk 16 op subs tests 0 0).T.length → (∀ f, f ∈ fs → 0 ≤ gi f 0 ∧ gi f 0 < (mk 16 op subs tests 0 0).n) → fs.length ≤ 1000000 → MOk (mk 16 op subs tests 0 0).E hs fs (mk 16 op subs tests 0 0).n := fun hs fs hh hf hl => mOk_mk hok (hc 16) hh hf hl
  have hsm := mk_sm 16 op subs tests 0 0 hs ht
  generalize mk 16 op subs tests 0 0 = m at *
  have b1 := hbd.hi
  have b2 := hbd.e
  have b3 := hbd.t
  have s0 := hsh.s0
  have s1 := hsh.s1
  have hmod0 : 0 ≤ Int.tmod x m.n := Int.tmod_nonneg _ hx0
  have hmod1 : Int.tmod x m.n < m.n := Int.tmod_lt_of_pos _ (by omega)
  have l1 : ∀ (d : Nat) (v : Int) (c : List (List C)), 0 ≤ v → c.length ≤ 1000000 → ((c.length : Int) - v).toNat = d → Tot (fun k a b => oriellaw17_ProgKeeps_l1 (lv k) k op subs tests x a (Int.tmod x m.n) v m.n m.s m.e [[C.int .i64 (Int.tmod x m.n)]] c m.E m.T) (fun r => r = true) := by
    intro d
    induction d with
    | zero =>
      intro v c hv hcl hd
      refine Tot.step0 (fun k a b => oriellaw17_ProgKeeps_l1_q (lv k) k op subs tests x a (Int.tmod x m.n) v m.n m.s m.e [[C.int .i64 (Int.tmod x m.n)]] c m.E m.T) ?_
      refine Tot.f (decide_eq_false (by omega)) (Tot.t rfl (Tot.t (beq_int _) ?_))
      refine Tot.bind hrc fun y hy => ?_
      subst hy
      exact Tot.bind (same17_tot _ _ _ _ _ (by omega) ⟨by show m.T.length ≤ 1048576; omega, hsm⟩) fun y hy => Tot.ret hy
    | succ d ih =>
      intro v c hv hcl hd
      refine Tot.step0 (fun k a b => oriellaw17_ProgKeeps_l1_q (lv k) k op subs tests x a (Int.tmod x m.n) v m.n m.s m.e [[C.int .i64 (Int.tmod x m.n)]] c m.E m.T) ?_
      rw [wrap_id (x := v + 1) (by omega) (by omega)]
      refine Tot.t (decide_eq_true (by omega)) (Tot.t (decide_eq_true (by omega)) (Tot.t (decide_eq_true (by omega)) ?_))
      exact ih (v + 1) _ (by omega) (by rw [List.length_set]; exact hcl) (by rw [List.length_set]; omega)
  have l0 : ∀ (d : Nat) (v : Int) (E' : List (List C)), 0 ≤ v → E'.length ≤ 1000000 → ((E'.length : Int) - v).toNat = d → Tot (fun k a b => oriellaw17_ProgKeeps_l0 (lv k) k op subs tests x a v m.n m.s m.e m.n m.s m.e E' m.T m.E m.T) (fun r => r = true) := by
    intro d
    induction d with
    | zero =>
      intro v E' hv hcl hd
      refine Tot.step0 (fun k a b => oriellaw17_ProgKeeps_l0_q (lv k) k op subs tests x a v m.n m.s m.e m.n m.s m.e E' m.T m.E m.T) ?_
      rw [show IntKind.i64.wrap x = x from wrap_id (by omega) (by omega)]
      refine Tot.f (decide_eq_false (by omega)) (Tot.f (decide_eq_false (by omega)) (Tot.t (decide_eq_true (by omega)) (Tot.t (decide_eq_true (Int.le_refl _)) (Tot.both (roomy_of bytes4 (by omega)) isSl34 ?_))))
      have hmo := hme (List.replicate ((m.T.length : Int).toNat) [C.bool false]) [[C.int .i64 (Int.tmod x m.n)]] (by simp) (fun f hf => by rw [List.mem_singleton.1 hf]; exact ⟨hmod0, hmod1⟩) (by simp)
      refine Tot.bind (clo_tot hmo) fun c hcq => ?_
      have hcl := hcq.1.1
      exact Tot.in0 (l1 _ 0 c (by omega) (by omega) rfl)
    | succ d ih =>
      intro v E' hv hcl hd
      refine Tot.step0 (fun k a b => oriellaw17_ProgKeeps_l0_q (lv k) k op subs tests x a v m.n m.s m.e m.n m.s m.e E' m.T m.E m.T) ?_
      rw [wrap_id (x := v + 1) (by omega) (by omega)]
      refine Tot.t (decide_eq_true (by omega)) (Tot.t (decide_eq_true (by omega)) (Tot.t (decide_eq_true (by omega)) ?_))
      exact ih (v + 1) _ (by omega) (by rw [List.length_set]; exact hcl) (by rw [List.length_set]; omega)
  exact Tot.in0 (l0 _ 0 m.E (by omega) (by omega) rfl)
end Go.Vm.T
/- Where one comes without a move, and by one: the law. -/
set_option linter.unusedVariables false
set_option linter.unusedSimpArgs false
namespace Go.Vm.T
open Go Go.Vm Go.Proofs
attribute [local irreducible] lv oriellaw17_ProgCompiles_b oriellaw17_ProgMoves_b oriellaw17_ProgMoves_l0 oriellaw17_ProgMoves_l1 oriellaw17_ProgKeeps_b oriellaw17_ProgKeeps_l0 oriellaw17_ProgKeeps_l1 oriellaw17_ProgShapes_b oriellaw17_ProgShapes_l0 oriellaw17_ProgShapes_l1 oriellaw17_awake_b prog_Compile_b prog_maker_path_b prog_maker_step_b prog_maker_seq_b prog_maker_seq_l0 prog_maker_alt_b prog_maker_alt_l0 prog_maker_alt_l1 prog_maker_alt_l2 prog_maker_alt_l3 prog_maker_state_b prog_maker_lay_b prog_maker_free_b prog_Closure_b prog_Closure_l0 prog_Closure_l1 prog_Closure_l2 prog_Closure_l3 orielref12_Right_b orielref17_SameBits_b orielref17_SameBits_l0 orielref12_Size_b orielref12_size_b orielref12_size_l0 orielref12_size_l1 orielref12_sizeFilter_b orielref12_sizeFilter_l0 orielref12_sizeFilter_l1 prog_Moves_b prog_Moves_l0 orielref12_path_b orielref12_path_l0 orielref12_path_l1 orielref12_filter_b orielref12_filter_l0 orielref12_filter_l1 orielref12_filter_l2 orielref12_filter_l3 orielref12_filter_l4 orielref12_named_b orielref04_Right_b orielref04_Right_l0 orielref03_Plain_b orielref03_Plain_l0 orielref01_All_b orielref01_All_l0 orielref01_All_l1 orielref02_Start_b orielref01_Rune_b orielref01_Rune_l0 orielref01_Put_b orielref01_cut_b orielref01_cut_l0 orielref01_cut_l1 orielref01_cut_l2 orielref01_cut_l3 orielref01_cut_l4 orielref01_value_b orielref01_value_l0 orielref01_value_l1 orielref17_Compile_b orielref02_Char_b orielref02_Part_b orielref01_begins_b orielref01_begins_l0 orielref17_add_b orielref17_add_l0 orielref17_add_l1 orielref17_add_l2 orielref17_add_l3 orielref17_add_l4 orielref17_add_l5 orielref17_add_l6 orielref02_Blank_b orielref17_edge_b orielref05_Find_b orielref05_Find_l0 orielref17_Same_b orielref17_Same_l0 orielref17_Same_l1 oriellaw17_bits_b oriellaw17_bits_l0 oriellaw17_bits_l1 orielref12_SameFilter_b orielref12_SameFilter_l0 orielref12_SameFilter_l1 orielref12_Same_b orielref12_Same_l0 orielref12_Same_l1 orielref17_Closure_b orielref17_Closure_l0 orielref17_Closure_l1 orielref17_Closure_l2 orielref17_Moves_b orielref17_Moves_l0
theorem bits_tot (n x : Int) (h0 : 0 ≤ n) (h1 : n ≤ 1000) : Tot (fun k _ _ => (lv k).oriellaw17_bits n x) (fun r => BOk n r) := by
  refine oriellaw17_bits_up _ _ (Tot.congr ?_ (fun k _ _ => oriellaw17_bits_q (lv k) k n x))
  have loop : ∀ (d : Nat) (v : Int) (out : List (List C)), 0 ≤ v → v ≤ n → BOk v out → (n - v).toNat = d → Tot (fun k a b => oriellaw17_bits_l1 (lv k) k n x a v out) (fun r => BOk n r) := by
    intro d
    induction d with
    | zero =>
      intro v out hv hv2 hb hd
      obtain rfl : v = n := by omega
      refine Tot.step0 (fun k a b => oriellaw17_bits_l1_q (lv k) k v x a v out) ?_
      exact Tot.f (decide_eq_false (by omega)) (Tot.ret hb)
    | succ d ih =>
      intro v out hv hv2 hb hd
      refine Tot.step0 (fun k a b => oriellaw17_bits_l1_q (lv k) k n x a v out) ?_
      rw [wrap_id (x := v + 1) (by omega) (by omega), show IntKind.u64.wrap v = v from IntWalk.u64_in v ⟨hv, by omega⟩]
      have ht := Int.tmod_nonneg 64 hv
      have hl := hb.1
      refine Tot.t (decide_eq_true (by omega)) (Tot.f (decide_eq_false (by omega)) (Tot.t (roomy_of bytes4 (by omega)) ?_))
      refine ih (v + 1) _ (by omega) (by omega) ⟨by simp; omega, fun r hr => ?_⟩ (by omega)
      rcases List.mem_append.1 hr with hr | hr
      · exact hb.2 r hr
      · rw [List.mem_singleton.1 hr]; exact ⟨_, rfl⟩
  refine Tot.in0 (g := fun k a _ => oriellaw17_bits_l0 (lv k) k n x a) (Tot.step0 (fun k a b => oriellaw17_bits_l0_q (lv k) k n x a) ?_)
  refine Tot.cond (fun h => ?_) (fun h => Tot.ret ?_)
  · have h := of_decide_eq_true h
    refine Tot.f (by decide) (loop _ 1 _ (by omega) (by omega) ⟨rfl, fun r hr => ?_⟩ rfl)
    rw [List.mem_singleton.1 hr]
    exact ⟨_, rfl⟩
  · have h := of_decide_eq_false h
    exact ⟨by show ((0 : Nat) : Int) = n; omega, fun r hr => by cases hr⟩
/-- by one edge -/
def mvF (kind : Int) (s : List (List C)) : List (List C) → List (List C) → List (List C)
  | [], out => out
  | r :: l, out => mvF kind s l (if gi r 2 = kind ∧ bt s (gi r 0) = true then setT out (gi r 1) else out)
theorem mvF_ok {kind n : Int} {s : List (List C)} : ∀ {l out : List (List C)}, (∀ r, r ∈ l → 0 ≤ gi r 1 ∧ gi r 1 < n) → BOk n out → BOk n (mvF kind s l out) := by
  intro l
  induction l with
  | nil => intro out _ h; exact h
  | cons r l ih =>
    intro out hr h
    refine ih (fun r h => hr r (List.mem_cons_of_mem _ h)) ?_
    split
    · exact bOk_set h (hr r List.mem_cons_self).1 (hr r List.mem_cons_self).2
    · exact h
theorem moves_tot {n s e kind : Int} {E T hs st : List (List C)} (hm : MOk E hs [] n) (hst : BOk n st) : Tot (fun k _ _ => (lv k).prog_Moves n s e E T st kind) (fun r => r = mvF kind st E (List.replicate n.toNat [C.bool false])) ∧ Tot (fun k _ _ => (lv k).orielref17_Moves n s e E T st kind) (fun r => r = mvF kind st E (List.replicate n.toNat [C.bool false])) := by
  have hn0 := hm.n0
  have hn1 := hm.n1
  have hel := hm.e
  have hsl := hst.1
  have hok : BOk n (List.replicate n.toNat [C.bool false]) := ⟨by rw [List.length_replicate]; omega, fun r hr => ⟨false, List.eq_of_mem_replicate hr⟩⟩
  have loopP : ∀ (rest : List (List C)) (v : Int) (out : List (List C)), 0 ≤ v → E.drop v.toNat = rest → BOk n out → Tot (fun k a b => prog_Moves_l0 (lv k) k n s e E T st kind a v out) (fun r => r = mvF kind st rest out) := by
    intro rest
    induction rest with
    | nil =>
      intro v out hv hr hb
      refine Tot.step0 (fun k a b => prog_Moves_l0_q (lv k) k n s e E T st kind a v out) ?_
      have := List.drop_eq_nil_iff.1 hr
      exact Tot.f (decide_eq_false (by omega)) (Tot.ret rfl)
    | cons r rest ih =>
      intro v out hv hr hb
      obtain ⟨g1, g2, g3⟩ := drop_cons hr
      have hol := hb.1
      have hmem : r ∈ E := by rw [← g2]; exact getD_mem g1
      obtain ⟨f0, f1, t0, t1, _⟩ := hm.ed r hmem
      have hd : E.drop (v + 1).toNat = rest := by rw [show (v + 1).toNat = v.toNat + 1 by omega]; exact g3
      refine Tot.step0 (fun k a b => prog_Moves_l0_q (lv k) k n s e E T st kind a v out) ?_
      rw [g2, wrap_id (x := v + 1) (by omega) (by omega)]
      refine Tot.t (decide_eq_true (by omega)) (Tot.t (decide_eq_true (by omega)) (Tot.t (decide_eq_true (by omega)) (Tot.cond (fun h2 => ?_) (fun h2 => ?_))))
      · have h2 := eq_of_beq h2
        refine Tot.t (decide_eq_true f0) (Tot.t (decide_eq_true (by omega)) (Tot.cond (fun h3 => Tot.t (decide_eq_true t0) (Tot.t (decide_eq_true (by omega)) ?_)) (fun h3 => ?_)))
        · have h3' : bt st (gi r 0) = true := h3
          have := ih (v + 1) (setT out (gi r 1)) (by omega) hd (bOk_set hb t0 t1)
          show Tot _ (fun x => x = mvF kind st rest (if gi r 2 = kind ∧ bt st (gi r 0) = true then setT out (gi r 1) else out))
          rw [if_pos ⟨h2, h3'⟩]
          exact this
        · have h3' : ¬ (gi r 2 = kind ∧ bt st (gi r 0) = true) := fun h => by
            have h5 : gb (st.getD (gi r 0).toNat []) 0 = true := h.2
            rw [h3] at h5; cases h5
          show Tot _ (fun x => x = mvF kind st rest (if gi r 2 = kind ∧ bt st (gi r 0) = true then setT out (gi r 1) else out))
          rw [if_neg h3']
          exact ih (v + 1) out (by omega) hd hb
      · have h2 := ne_of_beq_false h2
        show Tot _ (fun x => x = mvF kind st rest (if gi r 2 = kind ∧ bt st (gi r 0) = true then setT out (gi r 1) else out))
        rw [if_neg (fun h => h2 h.1)]
        exact ih (v + 1) out (by omega) hd hb
  have loopR : ∀ (rest : List (List C)) (v : Int) (out : List (List C)), 0 ≤ v → E.drop v.toNat = rest → BOk n out → Tot (fun k a b => orielref17_Moves_l0 (lv k) k n s e E T st kind a v out) (fun r => r = mvF kind st rest out) := by
    intro rest
    induction rest with
    | nil =>
      intro v out hv hr hb
      refine Tot.step0 (fun k a b => orielref17_Moves_l0_q (lv k) k n s e E T st kind a v out) ?_
      have := List.drop_eq_nil_iff.1 hr
      exact Tot.f (decide_eq_false (by omega)) (Tot.ret rfl)
    | cons r rest ih =>
      intro v out hv hr hb
      obtain ⟨g1, g2, g3⟩ := drop_cons hr
      have hol := hb.1
      have hmem : r ∈ E := by rw [← g2]; exact getD_mem g1
      obtain ⟨f0, f1, t0, t1, _⟩ := hm.ed r hmem
      have hd : E.drop (v + 1).toNat = rest := by rw [show (v + 1).toNat = v.toNat + 1 by omega]; exact g3
      refine Tot.step0 (fun k a b => orielref17_Moves_l0_q (lv k) k n s e E T st kind a v out) ?_
      rw [g2, wrap_id (x := v + 1) (by omega) (by omega)]
      refine Tot.t (decide_eq_true (by omega)) (Tot.t (decide_eq_true (by omega)) (Tot.t (decide_eq_true (by omega)) (Tot.cond (fun h2 => ?_) (fun h2 => ?_))))
      · have h2 := eq_of_beq h2
        refine Tot.t (decide_eq_true f0) (Tot.t (decide_eq_true (by omega)) (Tot.cond (fun h3 => Tot.t (decide_eq_true t0) (Tot.t (decide_eq_true (by omega)) ?_)) (fun h3 => ?_)))
        · have h3' : bt st (gi r 0) = true := h3
          have := ih (v + 1) (setT out (gi r 1)) (by omega) hd (bOk_set hb t0 t1)
          show Tot _ (fun x => x = mvF kind st rest (if gi r 2 = kind ∧ bt st (gi r 0) = true then setT out (gi r 1) else out))
          rw [if_pos ⟨h2, h3'⟩]
          exact this
        · have h3' : ¬ (gi r 2 = kind ∧ bt st (gi r 0) = true) := fun h => by
            have h5 : gb (st.getD (gi r 0).toNat []) 0 = true := h.2
            rw [h3] at h5; cases h5
          show Tot _ (fun x => x = mvF kind st rest (if gi r 2 = kind ∧ bt st (gi r 0) = true then setT out (gi r 1) else out))
          rw [if_neg h3']
          exact ih (v + 1) out (by omega) hd hb
      · have h2 := ne_of_beq_false h2
        show Tot _ (fun x => x = mvF kind st rest (if gi r 2 = kind ∧ bt st (gi r 0) = true then setT out (gi r 1) else out))
        rw [if_neg (fun h => h2 h.1)]
        exact ih (v + 1) out (by omega) hd hb
  constructor
  · refine prog_Moves_up _ _ _ _ _ _ _ (Tot.congr ?_ (fun k _ _ => prog_Moves_q (lv k) k n s e E T st kind))
    exact Tot.t (decide_eq_true hn0) (Tot.t (decide_eq_true (Int.le_refl _)) (Tot.both (roomy_of bytes4 (by omega)) isSl34 (Tot.in0 (loopP E 0 _ (by omega) rfl hok))))
  · refine orielref17_Moves_up _ _ _ _ _ _ _ (Tot.congr ?_ (fun k _ _ => orielref17_Moves_q (lv k) k n s e E T st kind))
    exact Tot.t (decide_eq_true hn0) (Tot.t (decide_eq_true (Int.le_refl _)) (Tot.both (roomy_of bytes4 (by omega)) isSl34 (Tot.in0 (loopR E 0 _ (by omega) rfl hok))))
theorem reach_app {E hs fs : List (List C)} {q : Int} : Reach E hs (fs ++ fs) q ↔ Reach E hs fs q := by
  constructor
  · intro h
    induction h with
    | base hf => rcases List.mem_append.1 hf with hf | hf <;> exact .base hf
    | step _ h2 h3 ih => exact .step ih h2 h3
  · intro h
    induction h with
    | base hf => exact .base (List.mem_append_left _ hf)
    | step _ h2 h3 ih => exact .step ih h2 h3
theorem cloQ_bits {E hs fs gs a b : List (List C)} {n : Int} (h : ∀ q, Reach E hs fs q ↔ Reach E hs gs q) (ha : CloQ E hs fs n a) (hb : CloQ E hs gs n b) (hn : n ≤ 1000) : Tot (fun k _ _ => (lv k).orielref17_SameBits a b) (fun r => r = true) := by
  have h1 := ha.1.1
  have h2 := hb.1.1
  refine sameBits_tot a b (by omega) (by omega) fun i hi => ?_
  have e1 := ha.2 (i : Int) (by omega)
  have e2 := hb.2 (i : Int) (by omega)
  have e3 : bt a i = true ↔ bt b i = true := by rw [e1, e2]; exact h _
  unfold bt at e3
  rw [Int.toNat_natCast] at e3
  cases h4 : gb (a.getD i []) 0 with
  | true => exact (e3.1 h4).symm
  | false =>
    cases h5 : gb (b.getD i []) 0 with
    | false => rfl
    | true => rw [e3.2 h5] at h4; cases h4
theorem moves_law (op : Int) (subs tests : List (List C)) (x1 x2 x3 : Int) (hs : SmL BB subs) (ht : SmL BB tests) : Tot (fun k _ _ => (lv k).oriellaw17_ProgMoves op subs tests x1 x2 x3) (fun r => r = true) := by
  refine oriellaw17_ProgMoves_up _ _ _ _ _ _ (Tot.congr ?_ (fun k _ _ => oriellaw17_ProgMoves_q (lv k) k op subs tests x1 x2 x3))
  refine Tot.bind awake_tot fun r hr => ?_
  subst hr
  refine Tot.f rfl (Tot.bind (right_tot op subs tests hs ht) fun r hr => Tot.cond (fun _ => Tot.bind awake_tot fun r hr => Tot.ret hr) (fun hb => ?_))
  have hb : r = true := by simpa using hb
  obtain ⟨hok, hc⟩ := hr hb
  have hbd := mk_bd 16 op subs tests 0 0 hok
  have hpc := hc 16
  refine Tot.bind (rcompile_tot op subs tests hok (hc 16)) fun y hy => ?_
  subst hy
  have hme : ∀ hs fs : List (List C), hs.length = (mk 16 op subs tests 0 0).T.length → (∀ f, f ∈ fs → 0 ≤ gi f 0 ∧ gi f 0 < (mk 16 op subs tests 0 0).n) → fs.length ≤ 1000000 → MOk (mk 16 op subs tests 0 0).E hs fs (mk 16 op subs tests 0 0).n := fun hs fs hh hf hl => mOk_mk hok (hc 16) hh hf hl
  generalize mk 16 op subs tests 0 0 = m at *
  have b0 := hbd.lo
  have b1 := hbd.hi
  have b2 := hbd.e
  have b3 := hbd.t
  have hnl : ((m.T.map nf).length : Int) = m.T.length := by simp
  refine Tot.bind (bits_tot ((m.T.map nf).length : Int) x2 (by omega) (by omega)) fun h hh => ?_
  refine Tot.bind (bits_tot m.n x1 b0 (by omega)) fun s hsb => ?_
  have hhl : h.length = m.T.length := by have := hh.1; omega
  have hsl := hsb.1
  have hn1 : m.n ≤ 1000 := by omega
  have fin : ∀ fs : List (List C), (∀ f, f ∈ fs → 0 ≤ gi f 0 ∧ gi f 0 < m.n) → fs.length ≤ 1000 → ∀ gs : List (List C), (∀ q, Reach m.E h gs q ↔ Reach m.E h fs q) → (∀ f, f ∈ gs → 0 ≤ gi f 0 ∧ gi f 0 < m.n) → gs.length ≤ 2000 →
      Tot (fun k _ _ => ((lv k).prog_Closure m.n m.s m.e m.E (m.T.map nf) gs h).bind fun r2 => ((lv k).orielref17_Closure m.n m.s m.e m.E (m.T.map nf) fs h).bind fun r3 => some (r2, r3)) (fun p => CloQ m.E h gs m.n p.1 ∧ CloQ m.E h fs m.n p.2) := fun fs hf hl gs _ hg hl2 =>
    Tot.bind (clo_tot (hme h gs hhl hg (by omega))) fun r2 h2 => Tot.bind ((rclo_tot (hme h fs hhl hf (by omega))).2 _) fun r3 h3 => Tot.ret ⟨h2, h3⟩
  have mv := moves_tot (s := m.s) (e := m.e) (kind := x3) (T := m.T.map nf) (hme h [] hhl (fun f hf => by cases hf) (by simp)) hsb
  have mvb : Tot (fun k _ _ => ((lv k).prog_Moves m.n m.s m.e m.E (m.T.map nf) s x3).bind fun r6 => ((lv k).orielref17_Moves m.n m.s m.e m.E (m.T.map nf) s x3).bind fun r7 => ((lv k).orielref17_SameBits r6 r7).bind fun r8 => some r8) (fun r => r = true) := by
    refine Tot.bind mv.1 fun r6 h6 => Tot.bind mv.2 fun r7 h7 => ?_
    subst h6
    subst h7
    have hok := mvF_ok (kind := x3) (s := s) (fun r hr => ⟨((hme h [] hhl (fun f hf => by cases hf) (by simp)).ed r hr).2.2.1, ((hme h [] hhl (fun f hf => by cases hf) (by simp)).ed r hr).2.2.2.1⟩) (⟨by rw [List.length_replicate]; omega, fun r hr => ⟨false, List.eq_of_mem_replicate hr⟩⟩ : BOk m.n (List.replicate m.n.toNat [C.bool false]))
    have := hok.1
    exact Tot.bind (sameBits_tot _ _ rfl (by omega) (fun _ _ => rfl)) fun r h => Tot.ret h
  have l1 : ∀ (d : Nat) (v : Int) (fs : List (List C)), 0 ≤ v → v ≤ m.n → (m.n - v).toNat = d → (∀ f, f ∈ fs → 0 ≤ gi f 0 ∧ gi f 0 < m.n) → (fs.length : Int) ≤ v → Tot (fun k a b => oriellaw17_ProgMoves_l1 (lv k) k op subs tests x1 x2 x3 a v m.n m.s m.e m.E (m.T.map nf) h s fs) (fun r => r = true) := by
    intro d
    induction d with
    | zero =>
      intro v fs hv hv2 hd hf hl
      refine Tot.step0 (fun k a b => oriellaw17_ProgMoves_l1_q (lv k) k op subs tests x1 x2 x3 a v m.n m.s m.e m.E (m.T.map nf) h s fs) ?_
      refine Tot.f (decide_eq_false (by omega)) ?_
      have hff : ∀ f, f ∈ fs ++ fs → 0 ≤ gi f 0 ∧ gi f 0 < m.n := fun f hm => by rcases List.mem_append.1 hm with hm | hm <;> exact hf f hm
      refine Tot.bind (clo_tot (hme h fs hhl hf (by omega))) fun r1 h1 => Tot.t (roomy_of bytes3 (by omega)) (Tot.t (roomy_of bytes3 (by omega)) ?_)
      refine Tot.bind (clo_tot (hme h (fs ++ fs) hhl hff (by rw [List.length_append]; omega))) fun r2 h2 => Tot.bind ((rclo_tot (hme h fs hhl hf (by omega))).2 _) fun r3 h3 => ?_
      refine Tot.bind (cloQ_bits (fun _ => Iff.rfl) h1 h3 hn1) fun r4 h4 => ?_
      subst h4
      refine Tot.t rfl (Tot.bind (cloQ_bits (fun _ => reach_app) h2 h1 hn1) fun r5 h5 => ?_)
      subst h5
      exact Tot.t rfl mvb
    | succ d ih =>
      intro v fs hv hv2 hd hf hl
      refine Tot.step0 (fun k a b => oriellaw17_ProgMoves_l1_q (lv k) k op subs tests x1 x2 x3 a v m.n m.s m.e m.E (m.T.map nf) h s fs) ?_
      rw [wrap_id (x := v + 1) (by omega) (by omega)]
      refine Tot.t (decide_eq_true (by omega)) (Tot.t (decide_eq_true (by omega)) (Tot.t (decide_eq_true (by omega)) (Tot.cond (fun _ => Tot.t (roomy_of bytes3 (by omega)) ?_) (fun _ => ih (v + 1) fs (by omega) (by omega) (by omega) hf (by omega)))))
      refine ih (v + 1) _ (by omega) (by omega) (by omega) (fun f hm => ?_) (by simp; omega)
      rcases List.mem_append.1 hm with hm | hm
      · exact hf f hm
      · rw [List.mem_singleton.1 hm]
        exact ⟨hv, by show v < m.n; omega⟩
  have l0 : ∀ (d : Nat) (v : Int), 0 ≤ v → v ≤ m.n → (m.n - v).toNat = d → Tot (fun k a b => oriellaw17_ProgMoves_l0 (lv k) k op subs tests x1 x2 x3 a v m.n m.s m.e m.E (m.T.map nf) h s) (fun r => r = true) := by
    intro d
    induction d with
    | zero =>
      intro v hv hv2 hd
      refine Tot.step0 (fun k a b => oriellaw17_ProgMoves_l0_q (lv k) k op subs tests x1 x2 x3 a v m.n m.s m.e m.E (m.T.map nf) h s) ?_
      refine Tot.f (decide_eq_false (by omega)) ?_
      have hme0 := hme h [] hhl (fun f hf => by cases hf) (by simp)
      refine Tot.bind (clo_tot hme0) fun r1 h1 => Tot.bind (clo_tot hme0) fun r2 h2 => Tot.bind ((rclo_tot hme0).2 _) fun r3 h3 => ?_
      refine Tot.bind (cloQ_bits (fun _ => Iff.rfl) h1 h3 hn1) fun r4 h4 => ?_
      subst h4
      refine Tot.t rfl (Tot.bind (cloQ_bits (fun _ => Iff.rfl) h2 h1 hn1) fun r5 h5 => ?_)
      subst h5
      exact Tot.t rfl mvb
    | succ d ih =>
      intro v hv hv2 hd
      refine Tot.step0 (fun k a b => oriellaw17_ProgMoves_l0_q (lv k) k op subs tests x1 x2 x3 a v m.n m.s m.e m.E (m.T.map nf) h s) ?_
      rw [wrap_id (x := v + 1) (by omega) (by omega)]
      refine Tot.t (decide_eq_true (by omega)) (Tot.t (decide_eq_true (by omega)) (Tot.t (decide_eq_true (by omega)) (Tot.cond (fun _ => ?_) (fun _ => ih (v + 1) (by omega) (by omega) (by omega)))))
      refine l1 _ (v + 1) _ (by omega) (by omega) rfl (fun f hm => ?_) (by show ((1 : Nat) : Int) ≤ v + 1; omega)
      rw [List.mem_singleton.1 hm]
      exact ⟨hv, by show v < m.n; omega⟩
  exact Tot.in0 (l0 _ 0 (by omega) b0 rfl)
end Go.Vm.T
