/- Printed by a program of this session (xprint) out of the kit's print, with functions proved by hand. -/
import Derived.Test.YtjhchjjpopbieaaX0
import Derived.Test.YtjhchjjpopbieaaOpen
namespace Go.Proofs.Ytjhchjjpopbieaa.X
open Go.RowKit Go.Proofs.YtjhchjjpopbieaaW.PrintWords Go.Proofs.YtjhchjjpopbieaaW.PrintLast Go.Proofs.YtjhchjjpopbieaaW.PrintMore Go.Proofs.YtjhchjjpopbieaaW.XConv
attribute [local go_sem] max2_int min2_int max_two min_two max_three min_three max_four min_four   -- for this text's walks alone
set_option linter.unusedVariables false
set_option linter.unusedSimpArgs false

section
variable {H : Type} {enc : TypeId × Value → H} {w : World}
theorem opens44 (m : Nat) : Opens enc Try.prog w 44 m (fun cs => ∃ x, k44.K w x cs ∧ Fit44 x) := by
  cases m with
  | zero => exact opens_zero
  | succ m =>
    intro j hj cs D ps h hw
    obtain ⟨xs, n, rfl, hx, hl, hlen, hf⟩ := DataW.trod_struct Try.underlying44 h
    rw [show Try.prog.cellsOf 44 = 2 from by kernel_rfl] at hl
    obtain ⟨rfl, _⟩ := Prod.mk.inj hx
    match cs, hl with
    | [c0, c1], _ =>
        have q0 := opens_field Try.underlying44 hf hlen hw (show n ≤ m by omega) 0 rfl (z := 1) (by kernel_rfl) (ds := [c0]) rfl (opens_string Try.underlying9)
        obtain ⟨x0, g0, t0⟩ := q0
        obtain rfl : c0 = .string x0 := (List.cons.inj (show [c0] = [_] from g0)).1
        have q1 := opens_field Try.underlying44 hf hlen hw (show n ≤ m by omega) 1 rfl (z := 1) (by kernel_rfl) (ds := [c1]) rfl (opens_string Try.underlying9)
        obtain ⟨x1, g1, t1⟩ := q1
        obtain rfl : c1 = .string x1 := (List.cons.inj (show [c1] = [_] from g1)).1
        exact ⟨(⟨x0, x1⟩ : S44), k44_mk w (⟨x0, x1⟩ : S44) , Fit44.mk _ t0 t1⟩
theorem opens51 (m : Nat) : Opens enc Try.prog w 51 m (fun cs => ∃ x, k51.K w x cs ∧ Fit51 x) := by
  cases m with
  | zero => exact opens_zero
  | succ m =>
    intro j hj cs D ps h hw
    obtain ⟨xs, n, rfl, hx, hl, hlen, hf⟩ := DataW.trod_struct Try.underlying51 h
    rw [show Try.prog.cellsOf 51 = 2 from by kernel_rfl] at hl
    obtain ⟨rfl, _⟩ := Prod.mk.inj hx
    match cs, hl with
    | [c0, c1], _ =>
        have q0 := opens_field Try.underlying51 hf hlen hw (show n ≤ m by omega) 0 rfl (z := 1) (by kernel_rfl) (ds := [c0]) rfl (opens_string Try.underlying9)
        obtain ⟨x0, g0, t0⟩ := q0
        obtain rfl : c0 = .string x0 := (List.cons.inj (show [c0] = [_] from g0)).1
        have q1 := opens_field Try.underlying51 hf hlen hw (show n ≤ m by omega) 1 rfl (z := 1) (by kernel_rfl) (ds := [c1]) rfl (opens_string Try.underlying9)
        obtain ⟨x1, g1, t1⟩ := q1
        obtain rfl : c1 = .string x1 := (List.cons.inj (show [c1] = [_] from g1)).1
        exact ⟨(⟨x0, x1⟩ : S51), k51_mk w (⟨x0, x1⟩ : S51) , Fit51.mk _ t0 t1⟩
theorem opens25 (m : Nat) : Opens enc Try.prog w 25 m (fun cs => ∃ x, k25.K w x cs ∧ Fit25 x) := by
  cases m with
  | zero => exact opens_zero
  | succ m =>
    intro j hj cs D ps h hw
    obtain ⟨xs, n, rfl, hx, hl, hlen, hf⟩ := DataW.trod_struct Try.underlying25 h
    rw [show Try.prog.cellsOf 25 = 2 from by kernel_rfl] at hl
    obtain ⟨rfl, _⟩ := Prod.mk.inj hx
    match cs, hl with
    | [c0, c1], _ =>
        have q0 := opens_field Try.underlying25 hf hlen hw (show n ≤ m by omega) 0 rfl (z := 1) (by kernel_rfl) (ds := [c0]) rfl (opens_string Try.underlying9)
        obtain ⟨x0, g0, t0⟩ := q0
        obtain rfl : c0 = .string x0 := (List.cons.inj (show [c0] = [_] from g0)).1
        have q1 := opens_field Try.underlying25 hf hlen hw (show n ≤ m by omega) 1 rfl (z := 1) (by kernel_rfl) (ds := [c1]) rfl (opens_slice (d := k51) (fit := Fit51) (B := 32) (z := 2) Try.underlying23 (by kernel_rfl) rfl (by kernel_rfl) (opens51 m))
        obtain ⟨x1, ⟨A1, e1, g1, l1, r1⟩, t1⟩ := q1
        obtain rfl : c1 = .slice A1 x1.length e1 := (List.cons.inj g1).1
        exact ⟨(⟨x0, x1⟩ : S25), k25_mk w (⟨x0, x1⟩ : S25) l1 r1, Fit25.mk _ t0 t1.1 (fun y hy => (t1.2 y hy))⟩
end
end Go.Proofs.Ytjhchjjpopbieaa.X
