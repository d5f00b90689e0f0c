/- oriellaw17.ProgCompiles, for all input of bulk at most 1048576: it answers true. -/
import Derived.Test.YtmbbjdkcanoklaaRows
import Derived.Test.YtmbbjdkcanoklaaVmPure
import Derived.Test.YtmbbjdkcanoklaaVmThree
import Derived.WalkKit
import Derived.ProofKit
import Derived.OpenShut
import Derived.ShutString
import Derived.ChangeOld
import Derived.Below
import Derived.SizedLaws
import Derived.JoinedCond
import Derived.Carry
/- oriellaw17.ProgCompiles, for all input of bulk at most 1048576: it answers true. -/
namespace Go.Proofs.Ytmbbjdkcanoklaa.progCompiles
open Go.ChangeShapes Go.WideShapes Go.ChangeAt Go.RowKit
open Go.ChangeMaps (open_string shut_string)
open Go.Vm Go.Vm.T
set_option linter.unusedVariables false
section
variable {H : Type}
theorem bulk_all_mem {d : DataW H} : ∀ {l : List (DataW H)}, d ∈ l → Rows.uptoBulk d ≤ Rows.uptoBulkAll l
  | x :: l, h => by
    simp only [Rows.uptoBulkAll]
    rcases List.mem_cons.1 h with rfl | h
    · omega
    · have := bulk_all_mem h
      omega
theorem bulk_one (d : DataW H) : 1 ≤ Rows.uptoBulk d := by
  cases d with
  | lit l => cases l <;> simp [Rows.uptoBulk]
  | nil => simp [Rows.uptoBulk]
  | ptr d => simp [Rows.uptoBulk]
  | slice elems spare => simp [Rows.uptoBulk]
  | agg parts => simp [Rows.uptoBulk]
  | iface t d => simp [Rows.uptoBulk]
  | map entries => simp [Rows.uptoBulk]
  | held h => simp [Rows.uptoBulk]
theorem bulk_len : ∀ (l : List (DataW H)), l.length ≤ Rows.uptoBulkAll l
  | [] => by simp [Rows.uptoBulkAll]
  | x :: l => by
    simp only [Rows.uptoBulkAll, List.length_cons]
    have := bulk_one x
    have := bulk_len l
    omega
theorem bulk : Bulk (H := H) Rows.uptoBulk 1048576 := by
  refine ⟨fun b _ h => ?_, fun el sp _ h => ?_, fun l h d hd => ?_⟩
  · simp only [Rows.uptoBulk] at h; omega
  · simp only [Rows.uptoBulk] at h
    have := bulk_len el
    exact ⟨by omega, fun d hd => by have := bulk_all_mem hd; omega⟩
  · simp only [Rows.uptoBulk] at h
    have := bulk_all_mem hd
    omega
theorem small_of {ds : List (DataW H)} (hk : Rows.uptoSmall H ds = true) {j : Nat} {d : DataW H} (hd : ds[j]? = some d) : Rows.uptoBulk d ≤ 1048576 := by
  have h : Rows.uptoBulkAll ds ≤ 1048576 := of_decide_eq_true hk
  have := bulk_all_mem (List.mem_of_getElem? hd)
  omega
end
theorem own : ownKnob Try.prog.godebug = none := by kernel_rfl
theorem laidOut : laidOutB Try.prog = true := by kernel_rfl
def els : List TypeId := [25, 51]
theorem closed : closedB Try.prog els = true := by kernel_rfl
theorem mixed : Try.prog.follows .mixedOrders = true := by kernel_rfl
theorem named : (Try.prog.funcs.toList.all fun fn => !(fn.name == "runtime.NumGoroutine")) = true := by kernel_rfl
theorem noGor (f : FuncId) (fn : Func) (c : Code) (h : Try.prog.funcs[f]? = some fn) (_ : fn.body = some c) : (fn.name == "runtime.NumGoroutine") = false := by
  have := List.all_eq_true.1 named fn (by
    have := Array.mem_of_getElem? h
    simpa using this)
  simpa using this
theorem canon_as (x : C) : x.canon = x.as x.kind := by cases x <;> rfl
theorem run (n : Nat) {x0 : Int} {x1 x2 : List (List C)} {r : Bool} (h : (lv n).oriellaw17_ProgCompiles x0 x1 x2 = some r) : call Try.prog kp n 3 [.v (.agg [.c (.int .i64 x0), .c (.row 25 x1), .c (.row 51 x2)])] = some (oriellaw17_ProgCompiles_r r) := by
  cases n with
  | zero => cases h
  | succ n =>
    rw [oriellaw17_ProgCompiles_lv] at h
    obtain ⟨R, h1, h2⟩ := bodyK_ok (lv_ok n) h
    rw [oriellaw17_ProgCompiles_dr h2] at h1
    exact h1
theorem walk {W : World} {cs : Array Value} {xs : List C} (h : All2 (CRep Try.prog W (fun k => k < W.heap.size)) xs cs.toList) (hk : xs.map C.kind = [.int .i64, .row 25, .row 51]) (hs : SmR BB xs) :
    Calls Try.prog 3 #[.agg cs] W fun e W' => e = .returned (.bool true) ∧ Below W.heap.size W W' := by
  rcases xs with _ | ⟨y0, _ | ⟨y1, _ | ⟨y2, _ | ⟨y3, ys⟩⟩⟩⟩ <;> simp only [List.map_cons, List.map_nil, List.cons.injEq, and_true, reduceCtorEq, and_false, List.nil_eq] at hk
  obtain ⟨k0, k1, k2⟩ := hk
  have e0 : y0.canon = .int .i64 y0.it := by rw [canon_as, k0]; rfl
  have e1 : y1.canon = .row 25 y1.rows := by rw [canon_as, k1]; rfl
  have e2 : y2.canon = .row 51 y2.rows := by rw [canon_as, k2]; rfl
  have hr : ∀ j, SmL BB (gr [y0, y1, y2] j) := fun j => hs.gr j
  obtain ⟨n, r, hr1, hr2⟩ := (compiles_tot y0.it y1.rows y2.rows (hr 1) (hr 2)).get
  have hc := call_sound mixed noGor n _ _ _ (run n hr2)
  rw [← e0, ← e1, ← e2] at hc
  subst hr1
  exact callOK_below hc (.agg (xs := [y0.canon, y1.canon, y2.canon]) (All2.map_left (f := C.canon) (h.imp fun _ _ _ h => h.canon)) .nil) rfl
set_option maxRecDepth 100000 in
theorem lifted (os : Os) (started : os.Started) (H : Type) (enc : TypeId × Value → H) (F : Stop.Interp) :
    ReturnsInHanded {} Try.checked os 3 .any ((Rows.OpenSpec.upto Rows.progCompilesSpec).pre6 enc Try.prog Try.f3 Rows.progCompilesUptoRow.domain false) (((Rows.OpenSpec.upto Rows.progCompilesSpec).at F).post enc Try.prog Try.f3 false true false false) := by
  refine returnsInHanded_of_cond (C := Try.checked) (s := Rows.OpenSpec.upto Rows.progCompilesSpec) (k := Rows.uptoSmall) rfl own started (by kernel_rfl) Try.func3
    (OpenSpec.witness (enc := enc) (C := Try.checked) (s := Rows.OpenSpec.upto Rows.progCompilesSpec) (k := Rows.uptoSmall) rfl false ⟨#[], #[.agg #[.int .i64 0, .slice none 0 0, .slice none 0 0]], []⟩ 8 (by kernel_rfl) (by kernel_rfl) (by kernel_rfl) (x := ([.agg [.lit (.int .i64 0), .nil, .nil]], [], [])) (by kernel_rfl) rfl (by kernel_rfl)) ?_
  intro W base args ds gs before hval0 hW hcnd hk _
  have hval : ∀ (j : Nat) t v, Try.f3.params[j]? = some t → args[j]? = some v → Value.okWide Try.prog W .any base t v := hval0
  have hW' := hW
  obtain ⟨p, q, hA0, hV, rfl, hfz, hnd⟩ := hW
  have hA : DataW.TrodAll enc Try.prog W 0 (fun _ => true) true Try.f3.params.toList args.toList ds p := hA0
  rw [Try.params3] at hA hval
  obtain ⟨v0, vs0, d0, ds0, p0, q0, hargs, rfl, rfl, h0, r0⟩ := trodAll_cons hA
  obtain ⟨rfl, rfl, rfl⟩ := trodAll_nil r0
  obtain rfl : args = #[v0] := by cases args; simp_all
  obtain ⟨rfl, rfl⟩ := trodVars_none hV
  obtain ⟨cs0, rfl, _⟩ := okWide_struct Try.underlying25 (hval 0 25 v0 rfl rfl)
  have k0 := h0
  have lt0 : ∀ x ∈ p0, x.block < W.heap.size := by obtain ⟨m, hm⟩ := k0; exact DataW.trod_lt m _ _ _ hm
  obtain ⟨fuel0, hf0⟩ := h0
  obtain ⟨xs0, t0, kn0, sm0⟩ := trod_rep (S := els) bulk laidOut closed fuel0 25 _ _ 6 [.int .i64, .row 25, .row 51] hf0 (small_of hk (j := 0) rfl) (of_decide_eq_true (by kernel_rfl)) (by kernel_rfl) (fun e he => by simp at he; rcases he with rfl | rfl <;> decide)
  clear hA0 hval0
  refine (walk t0 kn0 sm0).mono fun e W' ⟨he, bel⟩ => ?_
  subst he
  exact ⟨_, rfl, _, _, _, [], _, [], hW', trodAll_mk1 (shut_bool Try.underlying4 _), (trodAll_cons_mk (Below.trod laidOut (by kernel_rfl) (of_decide_eq_true (by kernel_rfl)) k0 bel lt0) trodAll_mk0), rfl, bel.frame _, fun h => by cases h⟩
theorem over : Rows.progCompilesUptoRow.holds Try.pinned (Rows.OpenSpec.upto Rows.progCompilesSpec) :=
  OpenClaim.holds_of_cond 3 Try.f3 rfl rfl rfl rfl rfl rfl rfl ⟨rfl, rfl, rfl, rfl, rfl⟩ rfl rfl rfl rfl rfl (by kernel_rfl) Try.func3 (by kernel_rfl)
    (of_decide_eq_true (by kernel_rfl)) (by unfold Func.isWrapper; first | (rw [if_pos (by decide +kernel)]; kernel_rfl) | (rw [if_neg (by decide +kernel)]; exact ⟨rfl, rfl⟩))
    (fun os started H enc _ F => lifted os started H enc F)
theorem proved : Rows.ProgCompilesUptoSaid := over
#print axioms proved
end Go.Proofs.Ytmbbjdkcanoklaa.progCompiles
namespace Go.Proofs.Ytmbbjdkcanoklaa
/-- The row, under a short name, for the claim. -/
theorem progCompiles_holds : Rows.ProgCompilesUptoSaid := progCompiles.proved
end Go.Proofs.Ytmbbjdkcanoklaa
