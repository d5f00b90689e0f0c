/- The row. -/
import Derived.Test.YtfogiadkbdogcaaRows
import Derived.Test.YtfogiadkbdogcaaVmMore
import Derived.Test.YtfogiadkbdogcaaVmBase
/- oriellaw: PathRights, for all input of bulk at most 1048576: it answers true. -/
namespace Go.Proofs.Ytfogiadkbdogcaa.pathRights
open Go.ChangeShapes Go.WideShapes Go.ChangeAt Go.RowKit Go.Proofs.Ytfogiadkbdogcaa.lwBase
open Go.ChangeMaps (open_string shut_string)
open Go.Vm Go.Vm.T
set_option linter.unusedVariables false
def els : List TypeId := [25, 52]
theorem closed : closedB Try.prog els = true := by kernel_rfl
theorem run (n : Nat) (x0_0 : Int) (x0_1 : LL) (x0_2 : LL) (x1_0 : Int) (x1_1 : LL) (x1_2 : LL) {r : Bool} (h : (lv n).oriellaw12_PathRights x0_0 x0_1 x0_2 x1_0 x1_1 x1_2 = some r) : call Try.prog extG kp n 3 [.v (.agg [.c (.int .i64 x0_0), .c (.row 25 x0_1), .c (.row 52 x0_2)]), .v (.agg [.c (.int .i64 x1_0), .c (.row 25 x1_1), .c (.row 52 x1_2)])] = some (oriellaw12_PathRights_r r) := by
  cases n with
  | zero => cases h
  | succ n =>
    rw [oriellaw12_PathRights_lv] at h
    obtain ⟨R, h1, h2⟩ := bodyK_ok noEq_ok (lv_ok n) (by kernel_rfl) (fun _ _ h => oriellaw12_PathRights_dr h) h
    rw [oriellaw12_PathRights_dr h2] at h1
    exact h1
theorem walk {W : World} (hW : W.ShapedOpen Try.prog) {cs0 : Array Value} {xs0 : List C} (h0 : All2 (CRep Try.prog W (fun A => A.block < W.heap.size)) xs0 cs0.toList) (hk0 : xs0.map C.kind = [.int .i64, .row 25, .row 52]) (hs0 : SmR BB xs0) {cs1 : Array Value} {xs1 : List C} (h1 : All2 (CRep Try.prog W (fun A => A.block < W.heap.size)) xs1 cs1.toList) (hk1 : xs1.map C.kind = [.int .i64, .row 25, .row 52]) (hs1 : SmR BB xs1) :
    Calls Try.prog 3 #[.agg cs0, .agg cs1] W fun e W' => e = .returned (.bool true) ∧ Below W.heap.size W W' := by
  rcases xs0 with _ | ⟨y0_0, _ | ⟨y0_1, _ | ⟨y0_2, _ | ⟨y0_3, ys0⟩⟩⟩⟩ <;> simp only [List.map_cons, List.map_nil, List.cons.injEq, and_true, reduceCtorEq, and_false, List.nil_eq] at hk0
  obtain ⟨k0_0, k0_1, k0_2⟩ := hk0
  have e0_0 : y0_0.canon = .int .i64 y0_0.it := by rw [canon_as, k0_0]; rfl
  have e0_1 : y0_1.canon = .row 25 y0_1.rows := by rw [canon_as, k0_1]; rfl
  have e0_2 : y0_2.canon = .row 52 y0_2.rows := by rw [canon_as, k0_2]; rfl
  have hr0 : ∀ i, SmL BB (gr [y0_0, y0_1, y0_2] i) := fun i => hs0.gr i
  have hz0 : ∀ i, (gs [y0_0, y0_1, y0_2] i).size ≤ BB := fun i => hs0.gs i
  rcases xs1 with _ | ⟨y1_0, _ | ⟨y1_1, _ | ⟨y1_2, _ | ⟨y1_3, ys1⟩⟩⟩⟩ <;> simp only [List.map_cons, List.map_nil, List.cons.injEq, and_true, reduceCtorEq, and_false, List.nil_eq] at hk1
  obtain ⟨k1_0, k1_1, k1_2⟩ := hk1
  have e1_0 : y1_0.canon = .int .i64 y1_0.it := by rw [canon_as, k1_0]; rfl
  have e1_1 : y1_1.canon = .row 25 y1_1.rows := by rw [canon_as, k1_1]; rfl
  have e1_2 : y1_2.canon = .row 52 y1_2.rows := by rw [canon_as, k1_2]; rfl
  have hr1 : ∀ i, SmL BB (gr [y1_0, y1_1, y1_2] i) := fun i => hs1.gr i
  have hz1 : ∀ i, (gs [y1_0, y1_1, y1_2] i).size ≤ BB := fun i => hs1.gs i
  obtain ⟨n, r, q1, q2⟩ := ((show Tot (fun k _ _ => (lv k).oriellaw12_PathRights y0_0.it y0_1.rows y0_2.rows y1_0.it y1_1.rows y1_2.rows) (fun r => r = true) from pathRights_tot [y0_0, y0_1, y0_2] [y1_0, y1_1, y1_2] hs0 hs1)).get
  have hc := call_sound mixed noGor ext_ok n _ _ _ (run n _ _ _ _ _ _ q2)
  rw [← e0_0, ← e0_1, ← e0_2, ← e1_0, ← e1_1, ← e1_2] at hc
  subst q1
  exact callOK_below hc (hood hW) (.agg (xs := [y0_0.canon, y0_1.canon, y0_2.canon]) (All2.map_left (f := C.canon) (h0.imp fun _ _ _ h => h.canon)) (.agg (xs := [y1_0.canon, y1_1.canon, y1_2.canon]) (All2.map_left (f := C.canon) (h1.imp fun _ _ _ h => h.canon)) .nil)) rfl
set_option maxRecDepth 100000 in
theorem lifted (os : Os) (started : os.Started) (H : Type) (enc : TypeId × Value → H) (F : Stop.Interp) :
    ReturnsInHanded {} Try.checked os 3 .any ((Rows.OpenSpec.upto Rows.pathRightsSpec).pre6 enc Try.prog Try.f3 Rows.pathRightsUptoRow.domain false) (((Rows.OpenSpec.upto Rows.pathRightsSpec).at F).post enc Try.prog Try.f3 false true false false) := by
  refine handed (C := Try.checked) (s := Rows.OpenSpec.upto Rows.pathRightsSpec) (k := Rows.uptoSmall) rfl own started (by kernel_rfl) Try.func3
    (OpenSpec.witness (enc := enc) (C := Try.checked) (s := Rows.OpenSpec.upto Rows.pathRightsSpec) (k := Rows.uptoSmall) rfl false ⟨#[], #[.agg #[.int .i64 0, .slice none 0 0, .slice none 0 0], .agg #[.int .i64 0, .slice none 0 0, .slice none 0 0]], []⟩ 8 (by kernel_rfl) (by kernel_rfl) (by kernel_rfl) (x := ([.agg [.lit (.int .i64 0), .nil, .nil], .agg [.lit (.int .i64 0), .nil, .nil]], [], [])) (by kernel_rfl) rfl (by kernel_rfl)) ?_
  intro W base args ds gs before hsh hval0 hW hk
  have hval : ∀ (j : Nat) t v, Try.f3.params[j]? = some t → args[j]? = some v → Value.okWide Try.prog W .any base t v := hval0
  have hW' := hW
  obtain ⟨p, q, hA0, hV, rfl, hfz, hnd⟩ := hW
  have hA : DataW.TrodAll enc Try.prog W 0 (fun _ => true) true Try.f3.params.toList args.toList ds p := hA0
  rw [Try.params3] at hA hval
  obtain ⟨v0, vs0, d0, ds0, p0, q0, hargs, rfl, rfl, h0, r0⟩ := trodAll_cons hA
  obtain ⟨v1, vs1, d1, ds1, p1, q1, rfl, rfl, rfl, h1, r1⟩ := trodAll_cons r0
  obtain ⟨rfl, rfl, rfl⟩ := trodAll_nil r1
  obtain rfl : args = #[v0, v1] := by cases args; simp_all
  obtain ⟨rfl, rfl⟩ := trodVars_none hV
  obtain ⟨cs0, rfl, _⟩ := okWide_struct Try.underlying25 (hval 0 25 v0 rfl rfl)
  have k0 := h0
  have lt0 : ∀ x ∈ p0, x.block < W.heap.size := by obtain ⟨m, hm⟩ := k0; exact DataW.trod_lt m _ _ _ hm
  obtain ⟨fuel0, hf0⟩ := h0
  obtain ⟨xs0, t0, kn0, sm0⟩ := trod_rep (S := els) bulk laidOut closed fuel0 25 _ _ 6 [.int .i64, .row 25, .row 52] hf0 (small_of hk (j := 0) rfl) (of_decide_eq_true (by kernel_rfl)) (by kernel_rfl) (fun e he => of_decide_eq_true (by simp at he; rcases he with rfl | rfl <;> kernel_rfl)) (by simp)
  obtain ⟨cs1, rfl, _⟩ := okWide_struct Try.underlying25 (hval 1 25 v1 rfl rfl)
  have k1 := h1
  have lt1 : ∀ x ∈ p1, x.block < W.heap.size := by obtain ⟨m, hm⟩ := k1; exact DataW.trod_lt m _ _ _ hm
  obtain ⟨fuel1, hf1⟩ := h1
  obtain ⟨xs1, t1, kn1, sm1⟩ := trod_rep (S := els) bulk laidOut closed fuel1 25 _ _ 6 [.int .i64, .row 25, .row 52] hf1 (small_of hk (j := 1) rfl) (of_decide_eq_true (by kernel_rfl)) (by kernel_rfl) (fun e he => of_decide_eq_true (by simp at he; rcases he with rfl | rfl <;> kernel_rfl)) (by simp)
  clear hA0 hval0
  refine (walk hsh t0 kn0 sm0 t1 kn1 sm1).mono fun e W' ⟨he, bel⟩ => ?_
  subst he
  exact ⟨_, rfl, _, _, _, [], _, [], hW', trodAll_mk1 (shut_bool Try.underlying4 _), (trodAll_cons_mk (Below.trod laidOut (by kernel_rfl) (of_decide_eq_true (by kernel_rfl)) k0 bel lt0) (trodAll_cons_mk (Below.trod laidOut (by kernel_rfl) (of_decide_eq_true (by kernel_rfl)) k1 bel lt1) trodAll_mk0)), rfl, bel.frame _, fun h => by cases h⟩
theorem over : Rows.pathRightsUptoRow.holds Try.pinned (Rows.OpenSpec.upto Rows.pathRightsSpec) :=
  OpenClaim.holds_of_cond 3 Try.f3 rfl rfl rfl rfl rfl rfl rfl ⟨rfl, rfl, rfl, rfl, rfl⟩ rfl rfl rfl rfl rfl (by kernel_rfl) Try.func3 (by kernel_rfl)
    (of_decide_eq_true (by kernel_rfl)) (by unfold Func.isWrapper; first | (rw [if_pos (by decide +kernel)]; kernel_rfl) | (rw [if_neg (by decide +kernel)]; exact ⟨rfl, rfl⟩))
    (fun os started H enc _ F => lifted os started H enc F)
theorem proved : Rows.PathRightsUptoSaid := over
#print axioms proved
end Go.Proofs.Ytfogiadkbdogcaa.pathRights
namespace Go.Proofs.Ytfogiadkbdogcaa
/-- The row, under a short name, for the claim. -/
theorem pathRights_holds : Rows.PathRightsUptoSaid := pathRights.proved
end Go.Proofs.Ytfogiadkbdogcaa
