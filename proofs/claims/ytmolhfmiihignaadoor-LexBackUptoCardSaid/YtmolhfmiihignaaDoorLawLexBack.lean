/- The row. -/
import Derived.Test.YtmolhfmiihignaaDoorCards
import Derived.Test.YtmolhfmiihignaaDoorTie
import Derived.Deep.DeepHandedRow
import Derived.Lay
import Derived.Test.YtmolhfmiihignaaDoorVmMore
import Derived.Test.YtmolhfmiihignaaDoorVmBase
/- oriellaw: LexBack, for all input of bulk at most 1048576: it answers true. -/
namespace Go.Proofs.YtmolhfmiihignaaDoor.lexBack
open Go.ChangeShapes Go.WideShapes Go.ChangeAt Go.RowKit Go.Proofs.YtmolhfmiihignaaDoor.lwBase
open Go.ChangeMaps (open_string shut_string)
open Go.Vm Go.Vm.T
set_option linter.unusedVariables false
def els : List TypeId := [28]
theorem closed : closedB Tryd.prog els = true := by kernel_rfl
theorem run (n : Nat) (x0 : LL) (x1 : Int) {r : Bool} (h : (lv n).oriellaw13_LexBack x0 x1 = some r) : call Tryd.prog extG kp n 4 [.v (.one (.c (.row 28 x0))), .v (.one (.c (.int .u8 x1)))] = some (oriellaw13_LexBack_r r) := by
  cases n with
  | zero => cases h
  | succ n =>
    rw [oriellaw13_LexBack_lv] at h
    obtain ⟨R, h1, h2⟩ := bodyK_ok noEq_ok (lv_ok n) (by kernel_rfl) (fun _ _ h => oriellaw13_LexBack_dr h) h
    rw [oriellaw13_LexBack_dr h2] at h1
    exact h1
theorem walk {W : World} (hW : W.ShapedOpen Tryd.prog) {c0 : Value} {x0 : C} (h0 : CRep Tryd.prog W (fun A => A.block < W.heap.size) x0 c0) (hk0 : x0.kind = .row 28) (hs0 : Sm BB x0) (a1 : Int) (w1 : (Lit.int .u8 a1).wf = true) :
    Calls Tryd.prog 4 #[c0, .int .u8 a1] W fun e W' => e = .returned (.bool true) ∧ Below W.heap.size W W' := by
  have e0_0 : x0.canon = .row 28 x0.rows := by rw [canon_as, hk0]; rfl
  have hr0 : SmL BB x0.rows := SmR.gr (r := [x0]) (fun y hy => by rw [List.mem_singleton.1 hy]; exact hs0) 0
  obtain ⟨n, r, q1, q2⟩ := ((show Tot (fun k _ _ => (lv k).oriellaw13_LexBack x0.rows a1) (fun r => r = true) from back_tot x0.rows a1 hr0)).get
  have hc := call_sound mixed noGor ext_ok n _ _ _ (run n _ _ q2)
  rw [← e0_0] at hc
  subst q1
  exact callOK_below hc (hood hW) (.one (h0.canon) (.one (.int _ _) .nil)) rfl
theorem zero_reads (os : Os) {H : Type} (enc : TypeId × Value → H) : DataW.whole enc Tryd.prog ((World.laidAll Tryd.prog os Rows.lexBackUptoRow.laid).forCall (fun _ _ => 0) ⟨#[], #[.slice none 0 0, .int .u8 0], []⟩).memory Tryd.f4.params.toList (Rows.OpenSpec.upto Rows.lexBackSpec).vars false #[.slice none 0 0, .int .u8 0].toList 8 = some ([.nil, .lit (.int .u8 0)], [], []) := by kernel_rfl
theorem laid_met (os : Os) : laidMetH Tryd.prog Rows.lexBackUptoRow.laid ((World.laidAll Tryd.prog os Rows.lexBackUptoRow.laid).forCall (fun _ _ => 0) ⟨#[], #[.slice none 0 0, .int .u8 0], []⟩).memory := by
  rw [MakeChecks.laidMetH_plain _ _ _ (by kernel_rfl)]; exact laidMet_laidAll _ (by kernel_rfl) (by kernel_rfl)
set_option maxRecDepth 100000 in
theorem wit (os : Os) (H : Type) (enc : TypeId × Value → H) : ∃ (w : World) (tape : Tape) (i : Input), w.os = os ∧ (w.forCall tape i).Shaped Tryd.checked.prog ∧ i.vars = [] ∧ Input.okWide Tryd.checked.prog (w.forCall tape i) .any w.heap.size 4 i ∧
      (Rows.OpenSpec.upto Rows.lexBackSpec).preRow enc Tryd.checked.prog Tryd.f4 Rows.lexBackUptoRow.domain false Rows.lexBackUptoRow.laid (w.forCall tape i).memory i.args ∧ ({} : Assume).holds Tryd.checked.prog (lone (Frame.enter Tryd.checked.prog 4 i.args .normal) [] (w.forCall tape i)) := by
  refine ⟨World.laidAll Tryd.prog os Rows.lexBackUptoRow.laid, fun _ _ => 0, ⟨#[], #[.slice none 0 0, .int .u8 0], []⟩, World.laidAll_os _ _ _, World.shaped_of_ZipB (by kernel_rfl) (by kernel_rfl), rfl, ?_, ?_, ?_⟩
  · exact (Input.okWide_of_okWideB (by kernel_rfl)).2
  · exact OpenSpec.preRow_of_cond 8 (zero_reads os enc) (by kernel_rfl) (fun k hk => by cases hk; kernel_rfl) (by kernel_rfl) (laid_met os)
  · simp only [Assume.holds]
    exact ⟨by simp, by simp, fun _ => Modest.zero, by simp, by simp⟩
set_option maxRecDepth 100000 in
theorem lifted (os : Os) (started : os.Started) (H : Type) (enc : TypeId × Value → H) (F : Stop.Interp) :
    ReturnsInHanded {} Tryd.checked os 4 .any ((Rows.OpenSpec.upto Rows.lexBackSpec).preRow enc Tryd.prog Tryd.f4 Rows.lexBackUptoRow.domain false Rows.lexBackUptoRow.laid) (((Rows.OpenSpec.upto Rows.lexBackSpec).at F).post enc Tryd.prog Tryd.f4 false true false false) := by
  refine returnsInHanded_of_row (C := Tryd.checked) (s := Rows.OpenSpec.upto Rows.lexBackSpec) own started (by kernel_rfl) Tryd.func4 (wit os H enc) ?_
  intro W base args ds gs before hval0 hW _ hcond _ hL hsh _
  have hk : Rows.uptoSmall H (ds ++ gs) = true := hcond _ rfl
  have hval : ∀ (j : Nat) t v, Tryd.f4.params[j]? = some t → args[j]? = some v → Value.okWide Tryd.prog W .any base t v := hval0
  have hW' := hW
  obtain ⟨p, q, hA0, hV, rfl, hfz, hnd⟩ := hW
  have hA : DataW.TrodAll enc Tryd.prog W 0 (fun _ => true) true Tryd.f4.params.toList args.toList ds p := hA0
  rw [Tryd.params4] at hA hval
  obtain ⟨v0, vs0, d0, ds0, p0, q0, hargs, rfl, rfl, h0, r0⟩ := trodAll_cons hA
  obtain ⟨v1, vs1, d1, ds1, p1, q1, rfl, rfl, rfl, h1, r1⟩ := trodAll_cons r0
  obtain ⟨rfl, rfl, rfl⟩ := trodAll_nil r1
  obtain rfl : args = #[v0, v1] := by cases args; simp_all
  obtain ⟨rfl, rfl⟩ := trodVars_none hV
  obtain ⟨ad0, ln0, cp0, rfl⟩ := okWide_slice Tryd.underlying23 (hval 0 23 v0 rfl rfl)
  have k0 := h0
  have lt0 : ∀ x ∈ p0, x.block < W.heap.size := by obtain ⟨m, hm⟩ := k0; exact DataW.trod_lt m _ _ _ hm
  obtain ⟨fuel0, hf0⟩ := h0
  obtain ⟨xs0, t0, kn0, sm0⟩ := trod_rep (S := els) bulk laidOut closed fuel0 23 _ _ 6 [.row 28] hf0 (small_of hk (j := 0) rfl) (of_decide_eq_true (by kernel_rfl)) (by kernel_rfl) (fun e he => of_decide_eq_true (by simp at he; rcases he with rfl <;> kernel_rfl)) (by simp)
  obtain ⟨x0, u0, kx0, sx0⟩ : ∃ x, CRep Tryd.prog W (fun A => A.block < W.heap.size) x (.slice ad0 ln0 cp0) ∧ x.kind = .row 28 ∧ Sm BB x := by
    cases t0 with
    | cons h h' => cases h'; exact ⟨_, h, by simpa using kn0, sm0 _ (List.mem_singleton.2 rfl)⟩
  obtain ⟨a1, rfl, rfl, rfl, w1⟩ := open_int Tryd.underlying5 (hval 1 5 v1 rfl rfl) h1
  clear hA0 hval0
  refine (walk hsh u0 kx0 sx0 a1 w1).mono fun e W' ⟨he, bel⟩ => ?_
  subst he
  exact ⟨_, rfl, _, _, _, [], _, [], hW', trodAll_mk1 (shut_bool Tryd.underlying4 _), (trodAll_cons_mk (Below.trod laidOut (by kernel_rfl) (of_decide_eq_true (by kernel_rfl)) k0 bel lt0) (trodAll_cons_mk (shut_int Tryd.underlying5 w1) trodAll_mk0)), rfl, bel.frame _, fun h => by cases h⟩
theorem over : Rows.lexBackUptoRow.holds Tryd.pinned (Rows.OpenSpec.upto Rows.lexBackSpec) :=
  OpenClaim.holds_of_cond 4 Tryd.f4 rfl rfl rfl rfl rfl rfl rfl ⟨rfl, rfl, rfl, rfl, rfl⟩ rfl rfl rfl rfl rfl (by kernel_rfl) Tryd.func4 (by kernel_rfl)
    (of_decide_eq_true (by kernel_rfl)) (by unfold Func.isWrapper; first | (rw [if_pos (by decide +kernel)]; kernel_rfl) | (rw [if_neg (by decide +kernel)]; exact ⟨rfl, rfl⟩))
    (fun os started H enc _ F => by rw [OpenClaim.pre_eq_preRow]; exact lifted os started H enc F)
theorem proved : Rows.LexBackUptoSaid := over
theorem plain (f : FuncId) (fn : Func) (hf : Tryd.pinned.checked.prog.funcNamed "oriel/oriellaw13.LexBack" = some f) (hfn : Tryd.pinned.checked.prog.funcs[f]? = some fn) :
    false = Tryd.pinned.checked.prog.looks [] ∧ ∀ (j : Nat) t, fn.params[j]? = some t → Tryd.pinned.checked.prog.wantsStandIn t = false := by
  obtain rfl : f = 4 := Option.some.inj ((show Tryd.prog.funcNamed "oriel/oriellaw13.LexBack" = some 4 by kernel_rfl).symm.trans hf) |>.symm
  obtain rfl : fn = Tryd.f4 := (Option.some.inj (Tryd.func4.symm.trans hfn)).symm
  refine ⟨by kernel_rfl, fun j t ht => ?_⟩
  rw [Tryd.params4] at ht
  have hm := Array.mem_of_getElem? ht
  simp at hm
  rcases hm with rfl | rfl <;> first | exact (show Tryd.prog.wantsStandIn 23 = false by kernel_rfl) | exact (show Tryd.prog.wantsStandIn 5 = false by kernel_rfl)
theorem card : Rows.LexBackUptoCardSaid :=
  Claim7.holds_tied_plain_at .later [] _ _ _ _ proved (fun _ h => by cases h) (by kernel_rfl) (fun _ h => by cases h) lexBackUpto_row_tie rfl ⟨rfl, rfl⟩ (by kernel_rfl) rfl plain (by kernel_rfl)
#print axioms card
end Go.Proofs.YtmolhfmiihignaaDoor.lexBack
namespace Go.Proofs.YtmolhfmiihignaaDoor
/-- The row, under a short name, for the claim. -/
theorem lexBack_holds : Rows.LexBackUptoCardSaid := lexBack.card
end Go.Proofs.YtmolhfmiihignaaDoor
