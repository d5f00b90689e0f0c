/- Kinds nested in each other: the limit of a row of kinds; two kinds, each made of both. -/
import Derived.Test.YtmbbjdkcanoklaaWWords
import Derived.Test.YtmbbjdkcanoklaaWFoot
set_option linter.unusedVariables false
namespace Go.Proofs.YtmbbjdkcanoklaaW.PrintWords.Kd
open Go Go.RowKit Go.Proofs.YtmbbjdkcanoklaaW.PrintWords
section
variable {α : Type}
/-- of a row of kinds: one of them -/
def lim (s : Nat → Kd α) (z : Nat) (E : List Nat) (hs : ∀ n, (s n).sz = z) (hE : ∀ n q, q ∈ (s n).E → q ∈ E) : Kd α where
  sz := z
  E := E
  K := fun w x cs => ∃ n, (s n).K w x cs
  M := fun w base ok x cs => ∃ n, (s n).M w base ok x cs
  K_len := fun ⟨n, h⟩ => ((s n).K_len h).trans (hs n)
  K_one := fun ⟨n, h⟩ => (s n).K_one h
  K_below := fun hb ⟨n, h⟩ => ⟨n, (s n).K_below hb h⟩
  K_of_M := fun ⟨n, h⟩ => ⟨n, (s n).K_of_M h⟩
  M_mono := fun hok ⟨n, h⟩ => ⟨n, (s n).M_mono hok h⟩
  M_bound := fun ⟨n, h⟩ => ⟨n, (s n).M_mono (fun _ ⟨h1, h2, h3, q, hq, hc⟩ => ⟨h1, h2, h3, q, hE n q hq, hc⟩) ((s n).M_bound h)⟩
  M_move := fun hm ⟨n, h⟩ => ⟨n, (s n).M_move hm h⟩
  M_lower := fun hb ⟨n, h⟩ => ⟨n, (s n).M_lower hb h⟩
/-- a row of kinds that says the more, the further -/
structure Grows (s : Nat → Kd α) : Prop where
  K : ∀ n w x cs, (s n).K w x cs → (s (n + 1)).K w x cs
  M : ∀ n w base ok x cs, (s n).M w base ok x cs → (s (n + 1)).M w base ok x cs
variable {s : Nat → Kd α} {z : Nat} {E : List Nat} {hs : ∀ n, (s n).sz = z} {hE : ∀ n q, q ∈ (s n).E → q ∈ E}
theorem Grows.K_le (hm : Grows s) {n m : Nat} (h : n ≤ m) {w x cs} (hk : (s n).K w x cs) : (s m).K w x cs := by
  obtain ⟨j, rfl⟩ := Nat.exists_eq_add_of_le h
  clear h
  induction j with
  | zero => exact hk
  | succ j ih => exact hm.K _ _ _ _ ih
theorem Grows.M_le (hm : Grows s) {n m : Nat} (h : n ≤ m) {w base ok x cs} (hk : (s n).M w base ok x cs) : (s m).M w base ok x cs := by
  obtain ⟨j, rfl⟩ := Nat.exists_eq_add_of_le h
  clear h
  induction j with
  | zero => exact hk
  | succ j ih => exact hm.M _ _ _ _ _ _ ih
theorem Grows.C_le (hm : Grows s) (hs : ∀ n, (s n).sz = z) {n m : Nat} (h : n ≤ m) {w : World} {A : Option Addr} {l : Nat} {xs : List α} (hc : (s n).C w A l xs) : (s m).C w A l xs := C_imp ((hs n).trans (hs m).symm) (fun _ _ _ hk => hm.K_le h hk) hc
theorem Grows.R_le (hm : Grows s) (hs : ∀ n, (s n).sz = z) {n m : Nat} (h : n ≤ m) {e : Nat} {w : World} {base : Nat} {ok : Nat → Prop} {v : Value} {xs : List α} (hc : (s n).R e w base ok v xs) : (s m).R e w base ok v xs := R_imp ((hs n).trans (hs m).symm) (fun _ _ _ _ _ hk => hm.M_le h hk) hc
theorem lim_C {n : Nat} {w : World} {A : Option Addr} {m : Nat} {xs : List α} (h : (s n).C w A m xs) : (lim s z E hs hE).C w A m xs := C_imp (d' := lim s z E hs hE) (hs n) (fun w x cs hp => (⟨n, hp⟩ : ∃ n, (s n).K w x cs)) h
theorem lim_R {n e : Nat} {w : World} {base : Nat} {ok : Nat → Prop} {v : Value} {xs : List α} (h : (s n).R e w base ok v xs) : (lim s z E hs hE).R e w base ok v xs := R_imp (d' := lim s z E hs hE) (hs n) (fun w base ok x cs hp => (⟨n, hp⟩ : ∃ n, (s n).M w base ok x cs)) h
theorem lim_R_back (hm : Grows s) {e : Nat} {w : World} {base : Nat} {ok : Nat → Prop} {v : Value} {xs : List α} (h : (lim s z E hs hE).R e w base ok v xs) : ∃ n, (s n).R e w base ok v xs := by
  obtain ⟨h0, inner, ho, hr⟩ := h
  obtain ⟨N, hN⟩ := reps_bounded (R := fun n p c => (s n).M w base (fun k => ok k ∧ some k ≠ v.ownBlock) p c) (fun n m p c hnm hp => hm.M_le hnm hp) hr
  exact ⟨N, h0, inner, by rw [hs N]; exact ho, by rw [hs N]; exact hN⟩
theorem lim_C_back (hm : Grows s) {w : World} {A : Option Addr} {m : Nat} {xs : List α} (h : (lim s z E hs hE).C w A m xs) : ∃ n, (s n).C w A m xs := by
  rcases Nat.eq_zero_or_pos m with hz | hpos
  · subst hz
    exact ⟨0, h.1, h.2.1, fun hp => absurd hp (Nat.lt_irrefl 0)⟩
  · obtain ⟨ad, e, hc⟩ := h.2.2 hpos
    obtain ⟨N, hN⟩ := bounded (P := fun n j => ∀ p, xs[j]? = some p → ∃ c, c.length = z ∧ (s n).K w p c ∧ ∀ i u, c[i]? = some u → w.cell? (ad.add (j * z + i)) = some u)
      (fun n n' j hnm hp p hj => by
        obtain ⟨c, h1, h2, h3⟩ := hp p hj
        exact ⟨c, h1, hm.K_le hnm h2, h3⟩) xs.length
      (fun j hj => by
        obtain ⟨c, h1, ⟨n, h2⟩, h3⟩ := hc j _ (List.getElem?_eq_getElem hj)
        refine ⟨n, fun p hp => ?_⟩
        rw [List.getElem?_eq_getElem hj] at hp
        injection hp with hp
        rw [← hp]
        exact ⟨c, h1, h2, h3⟩)
    refine ⟨N, h.1, h.2.1, fun _ => ⟨ad, e, fun j p hj => ?_⟩⟩
    obtain ⟨c, h1, h2, h3⟩ := hN j (List.getElem?_eq_some_iff.1 hj).1 p hj
    refine ⟨c, ?_, h2, ?_⟩
    · rw [hs N]; exact h1
    · rw [hs N]; exact h3
theorem heap_lim (hh : ∀ n, Heap (s n)) : Heap (lim s z E hs hE) := ⟨fun hb ⟨n, h⟩ => ⟨n, (hh n).K hb h⟩⟩
end
/-! two kinds, each made of both -/
section
variable {α β : Type} {F : Kd α → Kd β → Kd α} {G : Kd α → Kd β → Kd β} {y z : Nat} {E : List Nat}
def upto2 (F : Kd α → Kd β → Kd α) (G : Kd α → Kd β → Kd β) (y z : Nat) (E : List Nat) : Nat → Kd α × Kd β
  | 0 => (bot y E, bot z E)
  | n + 1 => (F (upto2 F G y z E n).1 (upto2 F G y z E n).2, G (upto2 F G y z E n).1 (upto2 F G y z E n).2)
theorem upto2_sz (hF : ∀ a b, (F a b).sz = y) (hG : ∀ a b, (G a b).sz = z) : (∀ n, (upto2 F G y z E n).1.sz = y) ∧ (∀ n, (upto2 F G y z E n).2.sz = z) :=
  ⟨fun n => by cases n with | zero => rfl | succ n => exact hF _ _, fun n => by cases n with | zero => rfl | succ n => exact hG _ _⟩
theorem upto2_E (hF : ∀ b : Kd β, (∀ q, q ∈ b.E → q ∈ E) → Sub (fun a => F a b) E) (hG : ∀ b : Kd β, (∀ q, q ∈ b.E → q ∈ E) → Sub (fun a => G a b) E) : ∀ n, (∀ q, q ∈ (upto2 F G y z E n).1.E → q ∈ E) ∧ (∀ q, q ∈ (upto2 F G y z E n).2.E → q ∈ E)
  | 0 => ⟨fun _ h => h, fun _ h => h⟩
  | n + 1 => ⟨hF _ (upto2_E hF hG n).2 _ (upto2_E hF hG n).1, hG _ (upto2_E hF hG n).2 _ (upto2_E hF hG n).1⟩
theorem upto2_grows (hsF : ∀ a b, (F a b).sz = y) (hsG : ∀ a b, (G a b).sz = z) (f1 : ∀ b, Mono (fun a => F a b)) (f2 : ∀ a, Mono (fun b => F a b)) (g1 : ∀ b, Mono (fun a => G a b)) (g2 : ∀ a, Mono (fun b => G a b)) : Grows (fun n => (upto2 F G y z E n).1) ∧ Grows (fun n => (upto2 F G y z E n).2) := by
  have hz := upto2_sz (E := E) hsF hsG
  have key : ∀ n, ((∀ w x cs, (upto2 F G y z E n).1.K w x cs → (upto2 F G y z E (n + 1)).1.K w x cs) ∧ (∀ w base ok x cs, (upto2 F G y z E n).1.M w base ok x cs → (upto2 F G y z E (n + 1)).1.M w base ok x cs)) ∧ ((∀ w x cs, (upto2 F G y z E n).2.K w x cs → (upto2 F G y z E (n + 1)).2.K w x cs) ∧ (∀ w base ok x cs, (upto2 F G y z E n).2.M w base ok x cs → (upto2 F G y z E (n + 1)).2.M w base ok x cs)) := by
    intro n
    induction n with
    | zero => exact ⟨⟨fun _ _ _ h => h.elim, fun _ _ _ _ _ h => h.elim⟩, ⟨fun _ _ _ h => h.elim, fun _ _ _ _ _ h => h.elim⟩⟩
    | succ n ih =>
      have e1 : (upto2 F G y z E n).1.sz = (upto2 F G y z E (n + 1)).1.sz := (hz.1 _).trans (hz.1 _).symm
      have e2 : (upto2 F G y z E n).2.sz = (upto2 F G y z E (n + 1)).2.sz := (hz.2 _).trans (hz.2 _).symm
      refine ⟨⟨fun w x cs h => ?_, fun w base ok x cs h => ?_⟩, ⟨fun w x cs h => ?_, fun w base ok x cs h => ?_⟩⟩
      · exact (f2 _).K _ _ e2 ih.2.1 _ _ _ ((f1 _).K _ _ e1 ih.1.1 _ _ _ h)
      · exact (f2 _).M _ _ e2 ih.2.2 _ _ _ _ _ ((f1 _).M _ _ e1 ih.1.2 _ _ _ _ _ h)
      · exact (g2 _).K _ _ e2 ih.2.1 _ _ _ ((g1 _).K _ _ e1 ih.1.1 _ _ _ h)
      · exact (g2 _).M _ _ e2 ih.2.2 _ _ _ _ _ ((g1 _).M _ _ e1 ih.1.2 _ _ _ _ _ h)
  exact ⟨⟨fun n => (key n).1.1, fun n => (key n).1.2⟩, ⟨fun n => (key n).2.1, fun n => (key n).2.2⟩⟩
theorem heap_upto2 (hF : ∀ a b, Heap a → Heap b → Heap (F a b)) (hG : ∀ a b, Heap a → Heap b → Heap (G a b)) : ∀ n, Heap (upto2 F G y z E n).1 ∧ Heap (upto2 F G y z E n).2
  | 0 => ⟨heap_bot _ _, heap_bot _ _⟩
  | n + 1 => ⟨hF _ _ (heap_upto2 hF hG n).1 (heap_upto2 hF hG n).2, hG _ _ (heap_upto2 hF hG n).1 (heap_upto2 hF hG n).2⟩
end
end Go.Proofs.YtmbbjdkcanoklaaW.PrintWords.Kd
