/- What all rows of this seat ask. -/
import Derived.Test.YtjobiohbddlfcaaRows
import Derived.Test.YtjobiohbddlfcaaVmThree
import Derived.WalkKit
import Derived.ProofKit
import Derived.OpenShut
import Derived.ShutString
import Derived.ChangeOld
import Derived.Below
import Derived.SizedLaws
import Derived.JoinedCond
import Derived.Carry
/- What all rows of this seat ask. -/
namespace Go.Proofs.Ytjobiohbddlfcaa.lwBase
open Go.ChangeShapes Go.WideShapes Go.ChangeAt Go.RowKit
open Go.Vm
set_option linter.unusedVariables false
section
variable {H : Type}
theorem bulk_all_mem {d : DataW H} : ∀ {l : List (DataW H)}, d ∈ l → Rows.uptoBulk d ≤ Rows.uptoBulkAll l
  | x :: l, h => by
    simp only [Rows.uptoBulkAll]
    rcases List.mem_cons.1 h with rfl | h
    · omega
    · have := bulk_all_mem h
      omega
theorem bulk_one (d : DataW H) : 1 ≤ Rows.uptoBulk d := by
  cases d with
  | lit l => cases l <;> simp [Rows.uptoBulk]
  | nil => simp [Rows.uptoBulk]
  | ptr d => simp [Rows.uptoBulk]
  | slice elems spare => simp [Rows.uptoBulk]
  | agg parts => simp [Rows.uptoBulk]
  | iface t d => simp [Rows.uptoBulk]
  | map entries => simp [Rows.uptoBulk]
  | held h => simp [Rows.uptoBulk]
theorem bulk_len : ∀ (l : List (DataW H)), l.length ≤ Rows.uptoBulkAll l
  | [] => by simp [Rows.uptoBulkAll]
  | x :: l => by
    simp only [Rows.uptoBulkAll, List.length_cons]
    have := bulk_one x
    have := bulk_len l
    omega
theorem bulk : Bulk (H := H) Rows.uptoBulk 1048576 := by
  refine ⟨fun b _ h => ?_, fun el sp _ h => ?_, fun l h d hd => ?_⟩
  · simp only [Rows.uptoBulk] at h; omega
  · simp only [Rows.uptoBulk] at h
    have := bulk_len el
    exact ⟨by omega, fun d hd => by have := bulk_all_mem hd; omega⟩
  · simp only [Rows.uptoBulk] at h
    have := bulk_all_mem hd
    omega
theorem small_of {ds : List (DataW H)} (hk : Rows.uptoSmall H ds = true) {j : Nat} {d : DataW H} (hd : ds[j]? = some d) : Rows.uptoBulk d ≤ 1048576 := by
  have h : Rows.uptoBulkAll ds ≤ 1048576 := of_decide_eq_true hk
  have := bulk_all_mem (List.mem_of_getElem? hd)
  omega
end
theorem own : ownKnob Try.prog.godebug = none := by kernel_rfl
theorem laidOut : laidOutB Try.prog = true := by kernel_rfl
theorem mixed : Try.prog.follows .mixedOrders = true := by kernel_rfl
theorem named : (Try.prog.funcs.toList.all fun fn => !(fn.name == "runtime.NumGoroutine")) = true := by kernel_rfl
theorem noGor (f : FuncId) (fn : Func) (c : Code) (h : Try.prog.funcs[f]? = some fn) (_ : fn.body = some c) : (fn.name == "runtime.NumGoroutine") = false := by
  have := List.all_eq_true.1 named fn (by
    have := Array.mem_of_getElem? h
    simpa using this)
  simpa using this
theorem canon_as (x : C) : x.canon = x.as x.kind := by cases x <;> rfl
theorem small_str {H : Type} {a : ByteArray} (h : Rows.uptoBulk (H := H) (.lit (.string a.data.toList)) ≤ 1048576) : a.size ≤ 1048576 := by
  simp only [Rows.uptoBulk, Array.length_toList] at h
  show a.data.size ≤ 1048576
  omega
theorem wf_u8 {a : Int} (h : (Lit.int .u8 a).wf = true) : 0 ≤ a ∧ a < 256 := by
  simp only [Lit.wf, Bool.and_eq_true, decide_eq_true_eq] at h
  have h1 : IntKind.u8.min = 0 := rfl
  have h2 : IntKind.u8.max = 255 := rfl
  omega
theorem wf_i64 {a : Int} (h : (Lit.int .i64 a).wf = true) : -9223372036854775808 ≤ a ∧ a < 9223372036854775808 := by
  simp only [Lit.wf, Bool.and_eq_true, decide_eq_true_eq] at h
  have h1 : IntKind.i64.min = -9223372036854775808 := rfl
  have h2 : IntKind.i64.max = 9223372036854775807 := rfl
  omega
end Go.Proofs.Ytjobiohbddlfcaa.lwBase
