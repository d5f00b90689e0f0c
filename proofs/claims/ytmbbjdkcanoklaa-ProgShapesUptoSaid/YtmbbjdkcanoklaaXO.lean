/- Printed by a program of this session (xprint) out of the kit's print, with functions proved by hand. -/
import Derived.Test.YtmbbjdkcanoklaaX0
import Derived.Test.YtmbbjdkcanoklaaOpenU
namespace Go.Proofs.Ytmbbjdkcanoklaa.X
open Go.RowKit Go.Proofs.YtmbbjdkcanoklaaW.PrintWords Go.Proofs.YtmbbjdkcanoklaaW.PrintLast Go.Proofs.YtmbbjdkcanoklaaW.PrintMore Go.Proofs.YtmbbjdkcanoklaaW.XConv
attribute [local go_sem] max2_int min2_int max_two min_two max_three min_three max_four min_four   -- for this text's walks alone
set_option linter.unusedVariables false
set_option linter.unusedSimpArgs false

section
variable {H : Type} {enc : TypeId × Value → H} {w : World}
set_option maxRecDepth 100000 in
theorem opens49 (m : Nat) : Opens enc Try.prog w 49 m (fun cs => ∃ x, k49.K w x cs ∧ Fit49 x) := by
  cases m with
  | zero => exact opens_zero
  | succ m =>
    intro j hj cs D ps h hw
    obtain ⟨xs, n, rfl, hx, hl, hlen, hf⟩ := DataW.trod_struct Try.underlying49 h
    rw [show Try.prog.cellsOf 49 = 2 from by kernel_rfl] at hl
    obtain ⟨rfl, _⟩ := Prod.mk.inj hx
    match cs, hl with
    | [c0, c1], _ =>
        have q0 := opens_field Try.underlying49 hf hlen hw (show n ≤ m by omega) 0 rfl (z := 1) (by kernel_rfl) (ds := [c0]) rfl (opens_string Try.underlying9)
        obtain ⟨x0, g0, t0⟩ := q0
        obtain rfl : c0 = .string x0 := (List.cons.inj (show [c0] = [_] from g0)).1
        have q1 := opens_field Try.underlying49 hf hlen hw (show n ≤ m by omega) 1 rfl (z := 1) (by kernel_rfl) (ds := [c1]) rfl (opens_string Try.underlying9)
        obtain ⟨x1, g1, t1⟩ := q1
        obtain rfl : c1 = .string x1 := (List.cons.inj (show [c1] = [_] from g1)).1
        exact ⟨(⟨x0, x1⟩ : S49), k49_mk w (⟨x0, x1⟩ : S49) , Fit49.mk _ t0 t1⟩
set_option maxRecDepth 100000 in
theorem opensG25 (m : Nat) : Opens enc Try.prog w 25 m (fun cs => ∃ x, k25.K w x cs ∧ Fit25 x) ∧ Opens enc Try.prog w 51 m (fun cs => ∃ x, k51.K w x cs ∧ Fit51 x) := by
  induction m with
  | zero => exact ⟨opens_zero, opens_zero⟩
  | succ m ih =>
    constructor
    · skip
      intro j hj cs D ps h hw
      obtain ⟨xs, n, rfl, hx, hl, hlen, hf⟩ := DataW.trod_struct Try.underlying25 h
      rw [show Try.prog.cellsOf 25 = 3 from by kernel_rfl] at hl
      obtain ⟨rfl, _⟩ := Prod.mk.inj hx
      match cs, hl with
      | [c0, c1, c2], _ =>
          have q0 := opens_field Try.underlying25 hf hlen hw (show n ≤ m by omega) 0 rfl (z := 1) (by kernel_rfl) (ds := [c0]) rfl (opens_int .i64 Try.underlying3)
          obtain ⟨x0, g0, t0⟩ := q0
          obtain rfl : c0 = .int .i64 x0 := (List.cons.inj (show [c0] = [_] from g0)).1
          have q1 := opens_field Try.underlying25 hf hlen hw (show n ≤ m by omega) 1 rfl (z := 1) (by kernel_rfl) (ds := [c1]) rfl (opens_slice (d := k25) (fit := Fit25) (B := 56) (z := 3) Try.underlying22 (by kernel_rfl) rfl (by kernel_rfl) ih.1)
          obtain ⟨x1, ⟨A1, e1, g1, l1, r1⟩, t1⟩ := q1
          obtain rfl : c1 = .slice A1 x1.length e1 := (List.cons.inj g1).1
          have q2 := opens_field Try.underlying25 hf hlen hw (show n ≤ m by omega) 2 rfl (z := 1) (by kernel_rfl) (ds := [c2]) rfl (opens_slice (d := k51) (fit := Fit51) (B := 104) (z := 6) Try.underlying23 (by kernel_rfl) rfl (by kernel_rfl) ih.2)
          obtain ⟨x2, ⟨A2, e2, g2, l2, r2⟩, t2⟩ := q2
          obtain rfl : c2 = .slice A2 x2.length e2 := (List.cons.inj g2).1
          exact ⟨(⟨x0, x1, x2⟩ : S25), k25_mk w (⟨x0, x1, x2⟩ : S25) l1 r1 l2 r2, Fit25.mk _ t0 t1.1 (fun y hy => (t1.2 y hy)) t2.1 (fun y hy => (t2.2 y hy))⟩
    · skip
      intro j hj cs D ps h hw
      obtain ⟨xs, n, rfl, hx, hl, hlen, hf⟩ := DataW.trod_struct Try.underlying51 h
      rw [show Try.prog.cellsOf 51 = 6 from by kernel_rfl] at hl
      obtain ⟨rfl, _⟩ := Prod.mk.inj hx
      match cs, hl with
      | [c0, c1, c2, c3, c4, c5], _ =>
          have q0 := opens_field Try.underlying51 hf hlen hw (show n ≤ m by omega) 0 rfl (z := 1) (by kernel_rfl) (ds := [c0]) rfl (opens_int .i64 Try.underlying3)
          obtain ⟨x0, g0, t0⟩ := q0
          obtain rfl : c0 = .int .i64 x0 := (List.cons.inj (show [c0] = [_] from g0)).1
          have q1 := opens_field Try.underlying51 hf hlen hw (show n ≤ m by omega) 1 rfl (z := 2) (by kernel_rfl) (ds := [c1, c2]) rfl (opens49 m)
          obtain ⟨x1, g1, t1⟩ := q1
          have h1 := k49_open g1
          simp only [List.cons.injEq, and_true] at h1
          obtain ⟨rfl, rfl⟩ := h1
          have q2 := opens_field Try.underlying51 hf hlen hw (show n ≤ m by omega) 2 rfl (z := 1) (by kernel_rfl) (ds := [c3]) rfl (opens_string Try.underlying9)
          obtain ⟨x2, g2, t2⟩ := q2
          obtain rfl : c3 = .string x2 := (List.cons.inj (show [c3] = [_] from g2)).1
          have q3 := opens_field Try.underlying51 hf hlen hw (show n ≤ m by omega) 3 rfl (z := 1) (by kernel_rfl) (ds := [c4]) rfl (opens_slice (d := k51) (fit := Fit51) (B := 104) (z := 6) Try.underlying23 (by kernel_rfl) rfl (by kernel_rfl) ih.2)
          obtain ⟨x3, ⟨A3, e3, g3, l3, r3⟩, t3⟩ := q3
          obtain rfl : c4 = .slice A3 x3.length e3 := (List.cons.inj g3).1
          have q4 := opens_field Try.underlying51 hf hlen hw (show n ≤ m by omega) 4 rfl (z := 1) (by kernel_rfl) (ds := [c5]) rfl (opens_slice (d := k25) (fit := Fit25) (B := 56) (z := 3) Try.underlying22 (by kernel_rfl) rfl (by kernel_rfl) ih.1)
          obtain ⟨x4, ⟨A4, e4, g4, l4, r4⟩, t4⟩ := q4
          obtain rfl : c5 = .slice A4 x4.length e4 := (List.cons.inj g4).1
          exact ⟨(⟨x0, x1, x2, x3, x4⟩ : S51), k51_mk w (⟨x0, x1, x2, x3, x4⟩ : S51) l3 r3 l4 r4, Fit51.mk _ t0 t1 t2 t3.1 (fun y hy => (t3.2 y hy)) t4.1 (fun y hy => (t4.2 y hy))⟩
set_option maxRecDepth 100000 in
theorem opens25 (m : Nat) : Opens enc Try.prog w 25 m (fun cs => ∃ x, k25.K w x cs ∧ Fit25 x) := (opensG25 m).1
set_option maxRecDepth 100000 in
theorem opens51 (m : Nat) : Opens enc Try.prog w 51 m (fun cs => ∃ x, k51.K w x cs ∧ Fit51 x) := (opensG25 m).2
end
end Go.Proofs.Ytmbbjdkcanoklaa.X
