/- oriellaw17.ProgMoves, for all input of bulk at most 1048576: it answers true. -/
import Derived.Test.YtmbbjdkcanoklaaRows
import Derived.Test.YtmbbjdkcanoklaaVmMore
import Derived.Test.YtmbbjdkcanoklaaVmBase
/- oriellaw: ProgMoves, for all input of bulk at most 1048576: it answers true. -/
namespace Go.Proofs.Ytmbbjdkcanoklaa.progMoves
open Go.ChangeShapes Go.WideShapes Go.ChangeAt Go.RowKit Go.Proofs.Ytmbbjdkcanoklaa.lwBase
open Go.ChangeMaps (open_string shut_string)
open Go.Vm Go.Vm.T
set_option linter.unusedVariables false
def els : List TypeId := [25, 51]
theorem closed : closedB Try.prog els = true := by kernel_rfl
theorem run (n : Nat) (x0_0 : Int) (x0_1 : List (List C)) (x0_2 : List (List C)) (x1 : Int) (x2 : Int) (x3 : Int) {r : Bool} (h : (lv n).oriellaw17_ProgMoves x0_0 x0_1 x0_2 x1 x2 x3 = some r) : call Try.prog kp n 4 [.v (.agg [.c (.int .i64 x0_0), .c (.row 25 x0_1), .c (.row 51 x0_2)]), .v (.one (.c (.int .u64 x1))), .v (.one (.c (.int .u64 x2))), .v (.one (.c (.int .i64 x3)))] = some (oriellaw17_ProgMoves_r r) := by
  cases n with
  | zero => cases h
  | succ n =>
    rw [oriellaw17_ProgMoves_lv] at h
    obtain ⟨R, h1, h2⟩ := bodyK_ok (lv_ok n) h
    rw [oriellaw17_ProgMoves_dr h2] at h1
    exact h1
theorem walk {W : World} {cs0 : Array Value} {xs0 : List C} (h0 : All2 (CRep Try.prog W (fun k => k < W.heap.size)) xs0 cs0.toList) (hk0 : xs0.map C.kind = [.int .i64, .row 25, .row 51]) (hs0 : SmR BB xs0) (a1 : Int) (w1 : (Lit.int .u64 a1).wf = true) (a2 : Int) (w2 : (Lit.int .u64 a2).wf = true) (a3 : Int) (w3 : (Lit.int .i64 a3).wf = true) :
    Calls Try.prog 4 #[.agg cs0, .int .u64 a1, .int .u64 a2, .int .i64 a3] W fun e W' => e = .returned (.bool true) ∧ Below W.heap.size W W' := by
  rcases xs0 with _ | ⟨y0_0, _ | ⟨y0_1, _ | ⟨y0_2, _ | ⟨y0_3, ys0⟩⟩⟩⟩ <;> simp only [List.map_cons, List.map_nil, List.cons.injEq, and_true, reduceCtorEq, and_false, List.nil_eq] at hk0
  obtain ⟨k0_0, k0_1, k0_2⟩ := hk0
  have e0_0 : y0_0.canon = .int .i64 y0_0.it := by rw [canon_as, k0_0]; rfl
  have e0_1 : y0_1.canon = .row 25 y0_1.rows := by rw [canon_as, k0_1]; rfl
  have e0_2 : y0_2.canon = .row 51 y0_2.rows := by rw [canon_as, k0_2]; rfl
  have hr0 : ∀ i, SmL BB (gr [y0_0, y0_1, y0_2] i) := fun i => hs0.gr i
  have hz0 : ∀ i, (gs [y0_0, y0_1, y0_2] i).size ≤ BB := fun i => hs0.gs i
  obtain ⟨n, r, q1, q2⟩ := (moves_law y0_0.it y0_1.rows y0_2.rows a1 a2 a3 (hr0 1) (hr0 2)).get
  have hc := call_sound mixed noGor n _ _ _ (run n _ _ _ _ _ _ q2)
  rw [← e0_0, ← e0_1, ← e0_2] at hc
  subst q1
  exact callOK_below hc (.agg (xs := [y0_0.canon, y0_1.canon, y0_2.canon]) (All2.map_left (f := C.canon) (h0.imp fun _ _ _ h => h.canon)) (.one (.int _ _) (.one (.int _ _) (.one (.int _ _) .nil)))) rfl
set_option maxRecDepth 100000 in
theorem lifted (os : Os) (started : os.Started) (H : Type) (enc : TypeId × Value → H) (F : Stop.Interp) :
    ReturnsInHanded {} Try.checked os 4 .any ((Rows.OpenSpec.upto Rows.progMovesSpec).pre6 enc Try.prog Try.f4 Rows.progMovesUptoRow.domain false) (((Rows.OpenSpec.upto Rows.progMovesSpec).at F).post enc Try.prog Try.f4 false true false false) := by
  refine returnsInHanded_of_cond (C := Try.checked) (s := Rows.OpenSpec.upto Rows.progMovesSpec) (k := Rows.uptoSmall) rfl own started (by kernel_rfl) Try.func4
    (OpenSpec.witness (enc := enc) (C := Try.checked) (s := Rows.OpenSpec.upto Rows.progMovesSpec) (k := Rows.uptoSmall) rfl false ⟨#[], #[.agg #[.int .i64 0, .slice none 0 0, .slice none 0 0], .int .u64 0, .int .u64 0, .int .i64 0], []⟩ 8 (by kernel_rfl) (by kernel_rfl) (by kernel_rfl) (x := ([.agg [.lit (.int .i64 0), .nil, .nil], .lit (.int .u64 0), .lit (.int .u64 0), .lit (.int .i64 0)], [], [])) (by kernel_rfl) rfl (by kernel_rfl)) ?_
  intro W base args ds gs before hval0 hW hcnd hk _
  have hval : ∀ (j : Nat) t v, Try.f4.params[j]? = some t → args[j]? = some v → Value.okWide Try.prog W .any base t v := hval0
  have hW' := hW
  obtain ⟨p, q, hA0, hV, rfl, hfz, hnd⟩ := hW
  have hA : DataW.TrodAll enc Try.prog W 0 (fun _ => true) true Try.f4.params.toList args.toList ds p := hA0
  rw [Try.params4] at hA hval
  obtain ⟨v0, vs0, d0, ds0, p0, q0, hargs, rfl, rfl, h0, r0⟩ := trodAll_cons hA
  obtain ⟨v1, vs1, d1, ds1, p1, q1, rfl, rfl, rfl, h1, r1⟩ := trodAll_cons r0
  obtain ⟨v2, vs2, d2, ds2, p2, q2, rfl, rfl, rfl, h2, r2⟩ := trodAll_cons r1
  obtain ⟨v3, vs3, d3, ds3, p3, q3, rfl, rfl, rfl, h3, r3⟩ := trodAll_cons r2
  obtain ⟨rfl, rfl, rfl⟩ := trodAll_nil r3
  obtain rfl : args = #[v0, v1, v2, v3] := by cases args; simp_all
  obtain ⟨rfl, rfl⟩ := trodVars_none hV
  obtain ⟨cs0, rfl, _⟩ := okWide_struct Try.underlying25 (hval 0 25 v0 rfl rfl)
  have k0 := h0
  have lt0 : ∀ x ∈ p0, x.block < W.heap.size := by obtain ⟨m, hm⟩ := k0; exact DataW.trod_lt m _ _ _ hm
  obtain ⟨fuel0, hf0⟩ := h0
  obtain ⟨xs0, t0, kn0, sm0⟩ := trod_rep (S := els) bulk laidOut closed fuel0 25 _ _ 6 [.int .i64, .row 25, .row 51] hf0 (small_of hk (j := 0) rfl) (of_decide_eq_true (by kernel_rfl)) (by kernel_rfl) (fun e he => of_decide_eq_true (by simp at he; rcases he with rfl | rfl <;> kernel_rfl))
  obtain ⟨a1, rfl, rfl, rfl, w1⟩ := open_int Try.underlying33 (hval 1 33 v1 rfl rfl) h1
  obtain ⟨a2, rfl, rfl, rfl, w2⟩ := open_int Try.underlying33 (hval 2 33 v2 rfl rfl) h2
  obtain ⟨a3, rfl, rfl, rfl, w3⟩ := open_int Try.underlying3 (hval 3 3 v3 rfl rfl) h3
  clear hA0 hval0
  refine (walk t0 kn0 sm0 a1 w1 a2 w2 a3 w3).mono fun e W' ⟨he, bel⟩ => ?_
  subst he
  exact ⟨_, rfl, _, _, _, [], _, [], hW', trodAll_mk1 (shut_bool Try.underlying4 _), (trodAll_cons_mk (Below.trod laidOut (by kernel_rfl) (of_decide_eq_true (by kernel_rfl)) k0 bel lt0) (trodAll_cons_mk (shut_int Try.underlying33 w1) (trodAll_cons_mk (shut_int Try.underlying33 w2) (trodAll_cons_mk (shut_int Try.underlying3 w3) trodAll_mk0)))), rfl, bel.frame _, fun h => by cases h⟩
theorem over : Rows.progMovesUptoRow.holds Try.pinned (Rows.OpenSpec.upto Rows.progMovesSpec) :=
  OpenClaim.holds_of_cond 4 Try.f4 rfl rfl rfl rfl rfl rfl rfl ⟨rfl, rfl, rfl, rfl, rfl⟩ rfl rfl rfl rfl rfl (by kernel_rfl) Try.func4 (by kernel_rfl)
    (of_decide_eq_true (by kernel_rfl)) (by unfold Func.isWrapper; first | (rw [if_pos (by decide +kernel)]; kernel_rfl) | (rw [if_neg (by decide +kernel)]; exact ⟨rfl, rfl⟩))
    (fun os started H enc _ F => lifted os started H enc F)
theorem proved : Rows.ProgMovesUptoSaid := over
#print axioms proved
end Go.Proofs.Ytmbbjdkcanoklaa.progMoves
namespace Go.Proofs.Ytmbbjdkcanoklaa
/-- The row, under a short name, for the claim. -/
theorem progMoves_holds : Rows.ProgMovesUptoSaid := progMoves.proved
end Go.Proofs.Ytmbbjdkcanoklaa
