/- What all rows of this seat ask. -/
import Derived.Test.YtmolhfmiihignaaDoorRows
import Derived.Test.YtmolhfmiihignaaDoorVmThree
import Derived.WalkKit
import Derived.ProofKit
import Derived.OpenShut
import Derived.ShutString
import Derived.ChangeOld
import Derived.Below
import Derived.SizedLaws
import Derived.JoinedCond
import Derived.Carry
/- What all rows of this seat ask. -/
namespace Go.Proofs.YtmolhfmiihignaaDoor.lwBase
open Go.ChangeShapes Go.WideShapes Go.ChangeAt Go.RowKit
open Go.Vm
set_option linter.unusedVariables false
section
variable {H : Type}
theorem bulk_all_mem {d : DataW H} : ∀ {l : List (DataW H)}, d ∈ l → Rows.uptoBulk d ≤ Rows.uptoBulkAll l
  | x :: l, h => by
    simp only [Rows.uptoBulkAll]
    rcases List.mem_cons.1 h with rfl | h
    · omega
    · have := bulk_all_mem h
      omega
theorem bulk_one (d : DataW H) : 1 ≤ Rows.uptoBulk d := by
  cases d with
  | lit l => cases l <;> simp [Rows.uptoBulk]
  | nil => simp [Rows.uptoBulk]
  | ptr d => simp [Rows.uptoBulk]
  | slice elems spare => simp [Rows.uptoBulk]
  | agg parts => simp [Rows.uptoBulk]
  | iface t d => simp [Rows.uptoBulk]
  | map entries => simp [Rows.uptoBulk]
  | held h => simp [Rows.uptoBulk]
theorem bulk_len : ∀ (l : List (DataW H)), l.length ≤ Rows.uptoBulkAll l
  | [] => by simp [Rows.uptoBulkAll]
  | x :: l => by
    simp only [Rows.uptoBulkAll, List.length_cons]
    have := bulk_one x
    have := bulk_len l
    omega
theorem bulk : Bulk (H := H) Rows.uptoBulk 1048576 := by
  refine ⟨fun b _ h => ?_, fun el sp _ h => ?_, fun l h d hd => ?_⟩
  · simp only [Rows.uptoBulk] at h; omega
  · simp only [Rows.uptoBulk] at h
    have := bulk_len el
    exact ⟨by omega, fun d hd => by have := bulk_all_mem hd; omega⟩
  · simp only [Rows.uptoBulk] at h
    have := bulk_all_mem hd
    omega
theorem small_of {ds : List (DataW H)} (hk : Rows.uptoSmall H ds = true) {j : Nat} {d : DataW H} (hd : ds[j]? = some d) : Rows.uptoBulk d ≤ 1048576 := by
  have h : Rows.uptoBulkAll ds ≤ 1048576 := of_decide_eq_true hk
  have := bulk_all_mem (List.mem_of_getElem? hd)
  omega
end
theorem own : ownKnob Tryd.prog.godebug = none := by kernel_rfl
theorem laidOut : laidOutB Tryd.prog = true := by kernel_rfl
theorem mixed : Tryd.prog.follows .mixedOrders = true := by kernel_rfl
theorem named : (Tryd.prog.funcs.toList.all fun fn => !(fn.name == "runtime.NumGoroutine")) = true := by kernel_rfl
theorem noGor (f : FuncId) (fn : Func) (c : Code) (h : Tryd.prog.funcs[f]? = some fn) (_ : fn.body = some c) : (fn.name == "runtime.NumGoroutine") = false := by
  have := List.all_eq_true.1 named fn (by
    have := Array.mem_of_getElem? h
    simpa using this)
  simpa using this
theorem lowOK {W : World} (h : W.ShapedOpen Tryd.prog) : Tryd.prog.globals.size ≤ W.heap.size := by
  cases hn : Tryd.prog.globals.size with
  | zero => exact Nat.zero_le _
  | succ n =>
    have hg : globalsB Tryd.prog = true := by kernel_rfl
    unfold globalsB at hg
    rw [hn] at hg
    have := low_of h hn hg
    omega
theorem hood {W : World} (h : W.ShapedOpen Tryd.prog) : Hood Tryd.prog W (fun _ => False) := hood_of h (lowOK h)
/-- a row's contract, at a world as Go lays it -/
theorem handed {H : Type} {enc : TypeId × Value → H} {a : Assume} {C : Checked} {os : Os} {f : FuncId} {fn : Func} {s : OpenSpec} {k : (H : Type) → List (DataW H) → Bool} (hk : s.cond = some k) {F : Stop.Interp} {conds : List PathCond} {apart fresh handsOn again : Bool}
    (own : ownKnob C.prog.godebug = none) (started : os.Started) (noInit : C.prog.inits.idxOf? f = none) (hfn : C.prog.funcs[f]? = some fn)
    (witness : ∃ (w : World) (tape : Tape) (i : Input), w.os = os ∧ (w.forCall tape i).Shaped C.prog ∧ i.vars = [] ∧ Input.okWide C.prog (w.forCall tape i) .any w.heap.size f i ∧
      s.pre6 enc C.prog fn conds apart (w.forCall tape i).memory i.args ∧ a.holds C.prog (lone (Frame.enter C.prog f i.args .normal) [] (w.forCall tape i)))
    (contract : ∀ (W : World) (base : Nat) (args : Array Value) (ds gs : List (DataW H)) (before : List MemPlace), W.ShapedOpen C.prog →
      (∀ (j : Nat) t v, fn.params[j]? = some t → args[j]? = some v → Value.okWide C.prog W .any base t v) →
      DataW.Whole enc C.prog fn.params.toList s.vars apart W args.toList ds gs before →
      k H (ds ++ gs) = true →
      Calls C.prog f args W fun e W' => ∃ v, e = .returned v ∧ (s.at F).post enc C.prog fn apart fresh handsOn again W args v W') :
    ReturnsInHanded a C os f .any (s.pre6 enc C.prog fn conds apart) ((s.at F).post enc C.prog fn apart fresh handsOn again) := by
  refine returnsInHanded_of_calls own started noInit witness fun w tape i _ hsh _ hok hpre _ => ?_
  obtain ⟨_, _, _, fn', hfn', _, _, _, _, hval⟩ := hok
  obtain rfl : fn' = fn := Option.some.inj (hfn'.symm.trans hfn)
  obtain ⟨ds, gs, before, hw, _, hkk⟩ := (OpenSpec.pre_some hk conds apart _ _).1 hpre.1
  exact (contract _ w.heap.size i.args ds gs before hsh hval (DataW.Whole.of_heap (w' := w.forCall tape i) (by rfl) hw) hkk).mono fun e W' ⟨v, he, hp⟩ => by
    subst he
    exact ChangeSpec.post_blind hp
theorem canon_as (x : C) : x.canon = x.as x.kind := by cases x <;> rfl
theorem small_str {H : Type} {a : ByteArray} (h : Rows.uptoBulk (H := H) (.lit (.string a.data.toList)) ≤ 1048576) : a.size ≤ 1048576 := by
  simp only [Rows.uptoBulk, Array.length_toList] at h
  show a.data.size ≤ 1048576
  omega
theorem wf_u8 {a : Int} (h : (Lit.int .u8 a).wf = true) : 0 ≤ a ∧ a < 256 := by
  simp only [Lit.wf, Bool.and_eq_true, decide_eq_true_eq] at h
  have h1 : IntKind.u8.min = 0 := rfl
  have h2 : IntKind.u8.max = 255 := rfl
  omega
theorem wf_i64 {a : Int} (h : (Lit.int .i64 a).wf = true) : -9223372036854775808 ≤ a ∧ a < 9223372036854775808 := by
  simp only [Lit.wf, Bool.and_eq_true, decide_eq_true_eq] at h
  have h1 : IntKind.i64.min = -9223372036854775808 := rfl
  have h2 : IntKind.i64.max = 9223372036854775807 := rfl
  omega
end Go.Proofs.YtmolhfmiihignaaDoor.lwBase
