/- Printed by a program of this session (xprint) out of the kit's print, with functions proved by hand. -/
import Derived.Test.YtmbbjdkcanoklaaRows
import Derived.Test.YtmbbjdkcanoklaaX30
import Derived.Test.YtmbbjdkcanoklaaPureProgShapes
import Derived.WalkKit
import Derived.ProofKit
import Derived.OpenShut
import Derived.ShutString
import Derived.ChangeOld
import Derived.Below
import Derived.SizedLaws
import Derived.JoinedCond
import Derived.Test.YtmbbjdkcanoklaaXO
import Derived.Carry
namespace Go.Proofs.Ytmbbjdkcanoklaa.progShapes
open Go.ChangeShapes Go.WideShapes Go.ChangeAt Go.RowKit
open Go.ChangeMaps (open_string shut_string)
open Go.Proofs.Ytmbbjdkcanoklaa.X Go.Proofs.YtmbbjdkcanoklaaW.PrintWords
set_option linter.unusedVariables false
theorem own : ownKnob Try.prog.godebug = none := by kernel_rfl
theorem laidOut : laidOutB Try.prog = true := by kernel_rfl
set_option maxRecDepth 100000 in
theorem lifted (os : Os) (started : os.Started) (H : Type) (enc : TypeId × Value → H) (F : Stop.Interp) :
    ReturnsInHanded {} Try.checked os 7 .any ((Rows.OpenSpec.upto Rows.progShapesSpec).pre6 enc Try.prog Try.f7 Rows.progShapesUptoRow.domain false) (((Rows.OpenSpec.upto Rows.progShapesSpec).at F).post enc Try.prog Try.f7 false true false false) := by
  refine returnsInHanded_of_cond (C := Try.checked) (s := Rows.OpenSpec.upto Rows.progShapesSpec) (k := Rows.uptoSmall) rfl own started (by kernel_rfl) Try.func7
    (OpenSpec.witness (enc := enc) (C := Try.checked) (s := Rows.OpenSpec.upto Rows.progShapesSpec) (k := Rows.uptoSmall) rfl false ⟨#[], #[.agg #[.int .i64 0, .slice none 0 0, .slice none 0 0]], []⟩ 8 (by kernel_rfl) (by kernel_rfl) (by kernel_rfl) (x := ([.agg [.lit (.int .i64 0), .nil, .nil]], [], [])) (by kernel_rfl) rfl (by kernel_rfl)) ?_
  intro W base args ds gs before hval0 hW hcnd hk _
  have hval : ∀ (j : Nat) t v, Try.f7.params[j]? = some t → args[j]? = some v → Value.okWide Try.prog W .any base t v := hval0
  have hW' := hW
  obtain ⟨p, q, hA0, hV, rfl, hfz, hnd⟩ := hW
  have hA : DataW.TrodAll enc Try.prog W 0 (fun _ => true) true Try.f7.params.toList args.toList ds p := hA0
  rw [Try.params7] at hA hval
  obtain ⟨v0, vs0, d0, ds0, p0, q0, hargs, rfl, rfl, h0, r0⟩ := trodAll_cons hA
  obtain ⟨rfl, rfl, rfl⟩ := trodAll_nil r0
  obtain rfl : args = #[v0] := by cases args; simp_all
  obtain ⟨rfl, rfl⟩ := trodVars_none hV
  obtain ⟨cs0, rfl, _⟩ := okWide_struct Try.underlying25 (hval 0 25 v0 rfl rfl)
  have k0 := h0
  have lt0 : ∀ x ∈ p0, x.block < W.heap.size := by obtain ⟨m, hm⟩ := k0; exact DataW.trod_lt m _ _ _ hm
  obtain ⟨fuel0, hf0⟩ := h0
  obtain ⟨x0, g0, t0⟩ := (opens25 fuel0) fuel0 (Nat.le_refl _) _ _ _ hf0 (opens_small hk (j := 0) rfl)
  obtain ⟨A0_1, c0_1, A0_2, c0_2, e0, hc0_1, hr0_1, hc0_2, hr0_2⟩ := k25_open g0
  obtain rfl : cs0 = #[.int .i64 x0.f0, .slice A0_1 x0.f1.length c0_1, .slice A0_2 x0.f2.length c0_2] := Array.toList_inj.1 e0
  clear hA0 hval0
  refine (X.oriellaw17_ProgShapes.walk Pure.ProgShapes x0 _ _ _ _ W t0 hr0_1 hc0_1 hr0_2 hc0_2).mono fun e W' ⟨he, bel⟩ => ?_
  subst he
  exact ⟨_, rfl, _, _, _, [], _, [], hW', trodAll_mk1 (shut_bool Try.underlying4 _), (trodAll_cons_mk (Below.trod laidOut (by kernel_rfl) (of_decide_eq_true (by kernel_rfl)) k0 bel lt0) trodAll_mk0), rfl, bel.frame _, fun h => by cases h⟩
theorem over : Rows.progShapesUptoRow.holds Try.pinned (Rows.OpenSpec.upto Rows.progShapesSpec) :=
  OpenClaim.holds_of_cond 7 Try.f7 rfl rfl rfl rfl rfl rfl rfl ⟨rfl, rfl, rfl, rfl, rfl⟩ rfl rfl rfl rfl rfl (by kernel_rfl) Try.func7 (by kernel_rfl)
    (of_decide_eq_true (by kernel_rfl)) (by unfold Func.isWrapper; first | (rw [if_pos (by decide +kernel)]; kernel_rfl) | (rw [if_neg (by decide +kernel)]; exact ⟨rfl, rfl⟩))
    (fun os started H enc _ F => lifted os started H enc F)
theorem proved : Rows.ProgShapesUptoSaid := over
#print axioms proved
end Go.Proofs.Ytmbbjdkcanoklaa.progShapes
namespace Go.Proofs.Ytmbbjdkcanoklaa
/-- The row, under a short name, for the claim. -/
theorem progShapes_holds : Rows.ProgShapesUptoSaid := progShapes.proved
end Go.Proofs.Ytmbbjdkcanoklaa
