/- What the given functions over iterators and function values want beside the words. -/
import Derived.Test.YtmbbjdkcanoklaaWWords
import Derived.Test.YtmbbjdkcanoklaaWFoot
import Derived.RangeFuncNested
import Derived.RangeFuncBound
import Derived.RangeFuncCalls
import Derived.RangeFuncLeaves
import Derived.RangeFuncBox
import Derived.Shelf.Abstract
import Derived.OwnWalkIn
import Derived.TacticsInMore
import Derived.LoopNIn
import Derived.LoopIn
import Derived.WalkSpells
import Derived.Deep.RegionLaw
namespace Go.Proofs.YtmbbjdkcanoklaaW.XConv
open Go.RowKit
/-- What has come when k rounds are over. -/
def upto {α : Type} (f : Nat → α) (k : Nat) : List α := (List.range k).map f
theorem upto_succ {α : Type} (f : Nat → α) (k : Nat) : upto f (k + 1) = upto f k ++ [f k] := by simp [upto, List.range_succ]
theorem upto_length {α : Type} (f : Nat → α) (k : Nat) : (upto f k).length = k := by simp [upto]
theorem upto_prefix {α : Type} (f : Nat → α) {k n : Nat} (h : k ≤ n) : upto f k <+: upto f n := by
  obtain ⟨d, rfl⟩ := Nat.exists_eq_add_of_le h
  clear h
  induction d with
  | zero => exact List.prefix_refl _
  | succ d ih => exact ih.trans (by rw [← Nat.add_assoc, upto_succ]; exact List.prefix_append _ _)
/-- The elements from behind. -/
theorem upto_reverse {α : Type} (l : List α) (d : α) : upto (fun j => l.getD (l.length - 1 - j) d) l.length = l.reverse := by
  apply List.ext_getElem
  · simp [upto]
  · intro i h1 h2
    have hi : i < l.length := by simpa [upto] using h1
    simp only [upto, List.getElem_map, List.getElem_range, List.getElem_reverse]
    rw [List.getD_eq_getElem?_getD, List.getElem?_eq_getElem (by omega)]
    rfl
/-- The first place where p holds; -1: none. -/
def idxF {α : Type} (p : α → Bool) : List α → Int
  | [] => -1
  | x :: l => if p x = true then 0 else if idxF p l < 0 then -1 else idxF p l + 1
theorem idxF_none {α : Type} {p : α → Bool} : ∀ {l : List α}, (∀ x, x ∈ l → p x = false) → idxF p l = -1
  | [], _ => rfl
  | x :: l, h => by
    unfold idxF
    rw [if_neg (by rw [h x List.mem_cons_self]; exact Bool.false_ne_true), idxF_none (fun y hy => h y (List.mem_cons_of_mem _ hy))]
    decide
theorem idxF_some {α : Type} {p : α → Bool} (d : α) : ∀ {l : List α} {k : Nat}, k < l.length → (∀ j, j < k → p (l.getD j d) = false) → p (l.getD k d) = true → idxF p l = k
  | [], _, hk, _, _ => absurd hk (Nat.not_lt_zero _)
  | x :: l, 0, _, _, h => by
    unfold idxF
    rw [if_pos (by simpa using h)]
    rfl
  | x :: l, k + 1, hk, hf, h => by
    have h0 : p x = false := by simpa using hf 0 (by omega)
    have ih := idxF_some d (l := l) (k := k) (by simpa using hk) (fun j hj => by simpa using hf (j + 1) (by omega)) (by simpa using h)
    unfold idxF
    rw [if_neg (by rw [h0]; exact Bool.false_ne_true), ih, if_neg (by omega)]
    omega
theorem idxF_any {α : Type} {p : α → Bool} : ∀ {l : List α}, decide (0 ≤ idxF p l) = l.any p
  | [] => rfl
  | x :: l => by
    have ih := idxF_any (p := p) (l := l)
    unfold idxF
    rw [List.any_cons]
    cases h : p x with
    | true => simp
    | false =>
      rw [if_neg Bool.false_ne_true, Bool.false_or, ← ih]
      by_cases h2 : idxF p l < 0
      · rw [if_pos h2, decide_eq_false (by omega), decide_eq_false (by omega)]
      · rw [if_neg h2, decide_eq_true (by omega), decide_eq_true (by omega)]
/-! the print's side proofs, once for all (wip/short.py puts them into the printed texts) -/
section
open Go.Proofs.YtmbbjdkcanoklaaW.PrintWords
theorem bk_ {P Q : Prop} (a : Aside0 Q) (h : Q → P := by intro h_; (with_reducible repeat (first | refine blk_drewN ?_ _ | refine blk_drew ?_ | refine blk_alloc ?_ _)); exact h_) : P := h a.out
theorem rr_ {P Q : Prop} (a : Aside0 Q) (h : Q → P := by intro h_; (with_reducible repeat (first | apply Kd.R_alloc | apply Kd.R_drewN | apply Kd.R_drew)); exact h_) : P := h a.out
theorem be0_ {P Q : Prop} (a : Aside0 Q) (h : Q → P := by intro h_; repeat (first | (with_reducible first | exact h_ | apply below_alloc | apply pw_below_drewN | apply below_drew1) | exact h_)) : P := h a.out
theorem be1_ {P Q R : Prop} (a : Aside0 Q) (b : Aside0 R) (h : Q → R → P := by intro h_ b_; repeat (first | (with_reducible first | exact h_ | apply below_alloc | apply pw_below_drewN | apply below_drew1 | refine below_set ?_ b_) | exact h_)) : P := h a.out b.out
theorem be2_ {P Q R S : Prop} (a : Aside0 Q) (b : Aside0 R) (c : Aside0 S) (h : Q → R → S → P := by intro h_ b_ c_; repeat (first | (with_reducible first | exact h_ | apply below_alloc | apply pw_below_drewN | apply below_drew1 | refine below_set ?_ b_ | refine below_set ?_ c_) | exact h_)) : P := h a.out b.out c.out
theorem be3_ {P Q R S T : Prop} (a : Aside0 Q) (b : Aside0 R) (c : Aside0 S) (d : Aside0 T) (h : Q → R → S → T → P := by intro h_ b_ c_ d_; repeat (first | (with_reducible first | exact h_ | apply below_alloc | apply pw_below_drewN | apply below_drew1 | refine below_set ?_ b_ | refine below_set ?_ c_ | refine below_set ?_ d_) | exact h_)) : P := h a.out b.out c.out d.out
end
end Go.Proofs.YtmbbjdkcanoklaaW.XConv
