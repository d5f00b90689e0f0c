/- What all rows of this seat ask. -/
import Derived.Test.YtkdlhnmidbnpkaaRows
import Derived.Test.YtkdlhnmidbnpkaaVmThree
import Derived.WalkKit
import Derived.ProofKit
import Derived.OpenShut
import Derived.ShutString
import Derived.ChangeOld
import Derived.Below
import Derived.SizedLaws
import Derived.JoinedCond
import Derived.Carry
namespace Go.Proofs.Ytkdlhnmidbnpkaa.lwBase
open Go.ChangeShapes Go.WideShapes Go.ChangeAt Go.RowKit
open Go.Vm
set_option linter.unusedVariables false
section
variable {H : Type}
theorem M7 {d : DataW H} : ∀ {l : List (DataW H)}, d ∈ l → Rows.uptoBulk d ≤ Rows.uptoBulkAll l
 | x :: l, h => by
  simp only [Rows.uptoBulkAll]
  rcases List.mem_cons.1 h with rfl | h
  ·omega
  ·have := M7 h
   omega
theorem Yk (d : DataW H) : 1 ≤ Rows.uptoBulk d := by
 cases d with
 | lit l => cases l <;> simp [Rows.uptoBulk]
 | nil => simp [Rows.uptoBulk]
 | ptr d => simp [Rows.uptoBulk]
 | slice elems spare => simp [Rows.uptoBulk]
 | agg parts => simp [Rows.uptoBulk]
 | iface t d => simp [Rows.uptoBulk]
 | map entries => simp [Rows.uptoBulk]
 | held h => simp [Rows.uptoBulk]
theorem Rw : ∀ (l : List (DataW H)), l.length ≤ Rows.uptoBulkAll l
 | [] => by simp [Rows.uptoBulkAll]
 | x :: l => by
  simp only [Rows.uptoBulkAll, List.length_cons]
  have := Yk x
  have := Rw l
  omega
theorem Rv : Qr (H := H) Rows.uptoBulk 1048576 := by
 refine ⟨fun b _ h => ?_, fun el sp _ h => ?_, fun l h d hd => ?_⟩
 ·simp only [Rows.uptoBulk] at h; omega
 ·simp only [Rows.uptoBulk] at h
  have := Rw el
  exact ⟨by omega, fun d hd => by have := M7 hd; omega⟩
 ·simp only [Rows.uptoBulk] at h
  have := M7 hd
  omega
theorem V3 {ds : List (DataW H)} (hk : Rows.uptoSmall H ds = true) {j : Nat} {d : DataW H} (hd : ds[j]? = some d) : Rows.uptoBulk d ≤ 1048576 := by
 have h : Rows.uptoBulkAll ds ≤ 1048576 := of_decide_eq_true hk
 have := M7 (List.mem_of_getElem? hd)
 omega
end
theorem own : ownKnob Try.prog.godebug = none := by kernel_rfl
theorem No : laidOutB Try.prog = true := by kernel_rfl
theorem Ab2 : Try.prog.follows .mixedOrders = true := by kernel_rfl
theorem Ab7 : (Try.prog.funcs.toList.all fun fn => !(fn.name == "runtime.NumGoroutine")) = true := by kernel_rfl
theorem Acc (f : FuncId) (fn : Func) (c : Code) (h : Try.prog.funcs[f]? = some fn) (_ : fn.body = some c) : (fn.name == "runtime.NumGoroutine") = false := by
 have := List.all_eq_true.1 Ab7 fn (by
  have := Array.mem_of_getElem? h
  simpa using this)
 simpa using this
theorem Abt {W : World} (h : W.ShapedOpen Try.prog) : Try.prog.globals.size ≤ W.heap.size := by
 cases hn : Try.prog.globals.size with
 | zero => exact Nat.zero_le _
 | succ n =>
  have hg : S8 Try.prog = true := by kernel_rfl
  unfold S8 at hg
  rw [hn] at hg
  have := Abu h hn hg
  omega
theorem hood {W : World} (h : W.ShapedOpen Try.prog) : Ih Try.prog W (fun _ => False) := Aat h (Abt h)
theorem Aap {H : Type} {enc : TypeId × Value → H} {a : Assume} {C : Checked} {os : Os} {f : FuncId} {fn : Func} {s : OpenSpec} {k : (H : Type) → List (DataW H) → Bool} (hk : s.cond = some k) {F : Stop.Interp} {conds : List PathCond} {apart fresh handsOn again : Bool}
  (own : ownKnob C.prog.godebug = none) (started : os.Started) (noInit : C.prog.inits.idxOf? f = none) (hfn : C.prog.funcs[f]? = some fn)
  (witness : ∃ (w : World) (tape : Tape) (i : Input), w.os = os ∧ (w.forCall tape i).Shaped C.prog ∧ i.vars = [] ∧ Input.okWide C.prog (w.forCall tape i) .any w.heap.size f i ∧
   s.pre6 enc C.prog fn conds apart (w.forCall tape i).memory i.args ∧ a.holds C.prog (lone (Frame.enter C.prog f i.args .normal) [] (w.forCall tape i)))
  (contract : ∀ (W : World) (base : Nat) (args : Array Value) (ds gs : List (DataW H)) (before : List MemPlace), W.ShapedOpen C.prog →
   (∀ (j : Nat) t v, fn.params[j]? = some t → args[j]? = some v → Value.okWide C.prog W .any base t v) →
   DataW.Whole enc C.prog fn.params.toList s.vars apart W args.toList ds gs before →
   k H (ds ++ gs) = true →
   Calls C.prog f args W fun e W' => ∃ v, e = .returned v ∧ (s.at F).post enc C.prog fn apart fresh handsOn again W args v W') :
  ReturnsInHanded a C os f .any (s.pre6 enc C.prog fn conds apart) ((s.at F).post enc C.prog fn apart fresh handsOn again) := by
 refine returnsInHanded_of_calls own started noInit witness fun w tape i _ hsh _ hok hpre _ => ?_
 obtain ⟨_, _, _, fn', hfn', _, _, _, _, hval⟩ := hok
 obtain rfl : fn' = fn := Option.some.inj (hfn'.symm.trans hfn)
 obtain ⟨ds, gs, before, hw, _, hkk⟩ := (OpenSpec.pre_some hk conds apart _ _).1 hpre.1
 exact (contract _ w.heap.size i.args ds gs before hsh hval (DataW.Whole.of_heap (w' := w.forCall tape i) (by rfl) hw) hkk).mono fun e W' ⟨v, he, hp⟩ => by
  subst he
  exact ChangeSpec.post_blind hp
theorem M9 (x : C) : x.canon = x.as x.kind := by cases x <;> rfl
theorem Aho {H : Type} {a : ByteArray} (h : Rows.uptoBulk (H := H) (.lit (.string a.data.toList)) ≤ 1048576) : a.size ≤ 1048576 := by
 simp only [Rows.uptoBulk, Array.length_toList] at h
 show a.data.size ≤ 1048576
 omega
theorem Ahq {a : Int} (h : (Lit.int .u8 a).wf = true) : 0 ≤ a ∧ a < 256 := by
 simp only [Lit.wf, Bool.and_eq_true, decide_eq_true_eq] at h
 have h1 : IntKind.u8.min = 0 := rfl
 have h2 : IntKind.u8.max = 255 := rfl
 omega
theorem Ahp {a : Int} (h : (Lit.int .i64 a).wf = true) : -9223372036854775808 ≤ a ∧ a < 9223372036854775808 := by
 simp only [Lit.wf, Bool.and_eq_true, decide_eq_true_eq] at h
 have h1 : IntKind.i64.min = -9223372036854775808 := rfl
 have h2 : IntKind.i64.max = 9223372036854775807 := rfl
 omega
end Go.Proofs.Ytkdlhnmidbnpkaa.lwBase
