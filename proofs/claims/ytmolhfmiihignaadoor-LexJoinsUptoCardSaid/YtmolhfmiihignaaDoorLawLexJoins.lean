/- The row. -/
import Derived.Test.YtmolhfmiihignaaDoorCards
import Derived.Test.YtmolhfmiihignaaDoorTie
import Derived.Deep.DeepHandedRow
import Derived.Lay
import Derived.Test.YtmolhfmiihignaaDoorVmMore
import Derived.Test.YtmolhfmiihignaaDoorVmBase
/- oriellaw: LexJoins, for all input of bulk at most 1048576: it answers true. -/
namespace Go.Proofs.YtmolhfmiihignaaDoor.lexJoins
open Go.ChangeShapes Go.WideShapes Go.ChangeAt Go.RowKit Go.Proofs.YtmolhfmiihignaaDoor.lwBase
open Go.ChangeMaps (open_string shut_string)
open Go.Vm Go.Vm.T
set_option linter.unusedVariables false
def els : List TypeId := [28]
theorem closed : closedB Tryd.prog els = true := by kernel_rfl
theorem run (n : Nat) (x0 : ByteArray) (x1 : ByteArray) {r : Bool} (h : (lv n).oriellaw13_LexJoins x0 x1 = some r) : call Tryd.prog extG kp n 3 [.v (.one (.c (.str x0))), .v (.one (.c (.str x1)))] = some (oriellaw13_LexJoins_r r) := by
  cases n with
  | zero => cases h
  | succ n =>
    rw [oriellaw13_LexJoins_lv] at h
    obtain ⟨R, h1, h2⟩ := bodyK_ok noEq_ok (lv_ok n) (by kernel_rfl) (fun _ _ h => oriellaw13_LexJoins_dr h) h
    rw [oriellaw13_LexJoins_dr h2] at h1
    exact h1
theorem walk {W : World} (hW : W.ShapedOpen Tryd.prog) (a0 : ByteArray) (z0 : a0.size ≤ 1048576) (a1 : ByteArray) (z1 : a1.size ≤ 1048576) :
    Calls Tryd.prog 3 #[.string a0, .string a1] W fun e W' => e = .returned (.bool true) ∧ Below W.heap.size W W' := by

  obtain ⟨n, r, q1, q2⟩ := ((show Tot (fun k _ _ => (lv k).oriellaw13_LexJoins a0 a1) (fun r => r = true) from joins_tot a0 a1 z0 z1)).get
  have hc := call_sound mixed noGor ext_ok n _ _ _ (run n _ _ q2)
  subst q1
  exact callOK_below hc (hood hW) (.one (.str _) (.one (.str _) .nil)) rfl
theorem zero_reads (os : Os) {H : Type} (enc : TypeId × Value → H) : DataW.whole enc Tryd.prog ((World.laidAll Tryd.prog os Rows.lexJoinsUptoRow.laid).forCall (fun _ _ => 0) ⟨#[], #[.string ByteArray.empty, .string ByteArray.empty], []⟩).memory Tryd.f3.params.toList (Rows.OpenSpec.upto Rows.lexJoinsSpec).vars false #[.string ByteArray.empty, .string ByteArray.empty].toList 8 = some ([.lit (.string []), .lit (.string [])], [], []) := by kernel_rfl
theorem laid_met (os : Os) : laidMetH Tryd.prog Rows.lexJoinsUptoRow.laid ((World.laidAll Tryd.prog os Rows.lexJoinsUptoRow.laid).forCall (fun _ _ => 0) ⟨#[], #[.string ByteArray.empty, .string ByteArray.empty], []⟩).memory := by
  rw [MakeChecks.laidMetH_plain _ _ _ (by kernel_rfl)]; exact laidMet_laidAll _ (by kernel_rfl) (by kernel_rfl)
set_option maxRecDepth 100000 in
theorem wit (os : Os) (H : Type) (enc : TypeId × Value → H) : ∃ (w : World) (tape : Tape) (i : Input), w.os = os ∧ (w.forCall tape i).Shaped Tryd.checked.prog ∧ i.vars = [] ∧ Input.okWide Tryd.checked.prog (w.forCall tape i) .any w.heap.size 3 i ∧
      (Rows.OpenSpec.upto Rows.lexJoinsSpec).preRow enc Tryd.checked.prog Tryd.f3 Rows.lexJoinsUptoRow.domain false Rows.lexJoinsUptoRow.laid (w.forCall tape i).memory i.args ∧ ({} : Assume).holds Tryd.checked.prog (lone (Frame.enter Tryd.checked.prog 3 i.args .normal) [] (w.forCall tape i)) := by
  refine ⟨World.laidAll Tryd.prog os Rows.lexJoinsUptoRow.laid, fun _ _ => 0, ⟨#[], #[.string ByteArray.empty, .string ByteArray.empty], []⟩, World.laidAll_os _ _ _, World.shaped_of_ZipB (by kernel_rfl) (by kernel_rfl), rfl, ?_, ?_, ?_⟩
  · exact (Input.okWide_of_okWideB (by kernel_rfl)).2
  · exact OpenSpec.preRow_of_cond 8 (zero_reads os enc) (by kernel_rfl) (fun k hk => by cases hk; kernel_rfl) (by kernel_rfl) (laid_met os)
  · simp only [Assume.holds]
    exact ⟨by simp, by simp, fun _ => Modest.zero, by simp, by simp⟩
set_option maxRecDepth 100000 in
theorem lifted (os : Os) (started : os.Started) (H : Type) (enc : TypeId × Value → H) (F : Stop.Interp) :
    ReturnsInHanded {} Tryd.checked os 3 .any ((Rows.OpenSpec.upto Rows.lexJoinsSpec).preRow enc Tryd.prog Tryd.f3 Rows.lexJoinsUptoRow.domain false Rows.lexJoinsUptoRow.laid) (((Rows.OpenSpec.upto Rows.lexJoinsSpec).at F).post enc Tryd.prog Tryd.f3 false true false false) := by
  refine returnsInHanded_of_row (C := Tryd.checked) (s := Rows.OpenSpec.upto Rows.lexJoinsSpec) own started (by kernel_rfl) Tryd.func3 (wit os H enc) ?_
  intro W base args ds gs before hval0 hW _ hcond _ hL hsh _
  have hk : Rows.uptoSmall H (ds ++ gs) = true := hcond _ rfl
  have hval : ∀ (j : Nat) t v, Tryd.f3.params[j]? = some t → args[j]? = some v → Value.okWide Tryd.prog W .any base t v := hval0
  have hW' := hW
  obtain ⟨p, q, hA0, hV, rfl, hfz, hnd⟩ := hW
  have hA : DataW.TrodAll enc Tryd.prog W 0 (fun _ => true) true Tryd.f3.params.toList args.toList ds p := hA0
  rw [Tryd.params3] at hA hval
  obtain ⟨v0, vs0, d0, ds0, p0, q0, hargs, rfl, rfl, h0, r0⟩ := trodAll_cons hA
  obtain ⟨v1, vs1, d1, ds1, p1, q1, rfl, rfl, rfl, h1, r1⟩ := trodAll_cons r0
  obtain ⟨rfl, rfl, rfl⟩ := trodAll_nil r1
  obtain rfl : args = #[v0, v1] := by cases args; simp_all
  obtain ⟨rfl, rfl⟩ := trodVars_none hV
  obtain ⟨a0, rfl, rfl, rfl, y0⟩ := open_string Tryd.underlying9 (hval 0 9 v0 rfl rfl) h0
  have z0 : a0.size ≤ 1048576 := small_str (small_of hk (j := 0) rfl)
  obtain ⟨a1, rfl, rfl, rfl, y1⟩ := open_string Tryd.underlying9 (hval 1 9 v1 rfl rfl) h1
  have z1 : a1.size ≤ 1048576 := small_str (small_of hk (j := 1) rfl)
  clear hA0 hval0
  refine (walk hsh a0 z0 a1 z1).mono fun e W' ⟨he, bel⟩ => ?_
  subst he
  exact ⟨_, rfl, _, _, _, [], _, [], hW', trodAll_mk1 (shut_bool Tryd.underlying4 _), (trodAll_cons_mk (shut_string Tryd.underlying9 y0) (trodAll_cons_mk (shut_string Tryd.underlying9 y1) trodAll_mk0)), rfl, bel.frame _, fun h => by cases h⟩
theorem over : Rows.lexJoinsUptoRow.holds Tryd.pinned (Rows.OpenSpec.upto Rows.lexJoinsSpec) :=
  OpenClaim.holds_of_cond 3 Tryd.f3 rfl rfl rfl rfl rfl rfl rfl ⟨rfl, rfl, rfl, rfl, rfl⟩ rfl rfl rfl rfl rfl (by kernel_rfl) Tryd.func3 (by kernel_rfl)
    (of_decide_eq_true (by kernel_rfl)) (by unfold Func.isWrapper; first | (rw [if_pos (by decide +kernel)]; kernel_rfl) | (rw [if_neg (by decide +kernel)]; exact ⟨rfl, rfl⟩))
    (fun os started H enc _ F => by rw [OpenClaim.pre_eq_preRow]; exact lifted os started H enc F)
theorem proved : Rows.LexJoinsUptoSaid := over
theorem plain (f : FuncId) (fn : Func) (hf : Tryd.pinned.checked.prog.funcNamed "oriel/oriellaw13.LexJoins" = some f) (hfn : Tryd.pinned.checked.prog.funcs[f]? = some fn) :
    false = Tryd.pinned.checked.prog.looks [] ∧ ∀ (j : Nat) t, fn.params[j]? = some t → Tryd.pinned.checked.prog.wantsStandIn t = false := by
  obtain rfl : f = 3 := Option.some.inj ((show Tryd.prog.funcNamed "oriel/oriellaw13.LexJoins" = some 3 by kernel_rfl).symm.trans hf) |>.symm
  obtain rfl : fn = Tryd.f3 := (Option.some.inj (Tryd.func3.symm.trans hfn)).symm
  refine ⟨by kernel_rfl, fun j t ht => ?_⟩
  rw [Tryd.params3] at ht
  obtain rfl : t = 9 := by simpa using Array.mem_of_getElem? ht
  exact (show Tryd.prog.wantsStandIn 9 = false by kernel_rfl)
theorem card : Rows.LexJoinsUptoCardSaid :=
  Claim7.holds_tied_plain_at .later [] _ _ _ _ proved (fun _ h => by cases h) (by kernel_rfl) (fun _ h => by cases h) lexJoinsUpto_row_tie rfl ⟨rfl, rfl⟩ (by kernel_rfl) rfl plain (by kernel_rfl)
#print axioms card
end Go.Proofs.YtmolhfmiihignaaDoor.lexJoins
namespace Go.Proofs.YtmolhfmiihignaaDoor
/-- The row, under a short name, for the claim. -/
theorem lexJoins_holds : Rows.LexJoinsUptoCardSaid := lexJoins.card
end Go.Proofs.YtmolhfmiihignaaDoor
