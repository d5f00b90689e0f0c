/- The row. -/
import Derived.Test.YtkdlhnmidbnpkaaRows
import Derived.Test.YtkdlhnmidbnpkaaVmMore
import Derived.Test.YtkdlhnmidbnpkaaVmBase
namespace Go.Proofs.Ytkdlhnmidbnpkaa.kindWholes
open Go.ChangeShapes Go.WideShapes Go.ChangeAt Go.RowKit Go.Proofs.Ytkdlhnmidbnpkaa.lwBase
open Go.ChangeMaps (open_string shut_string)
open Go.Vm Go.Vm.T
set_option linter.unusedVariables false
def els : List TypeId := [25, 66, 30, 86]
theorem P2 : Nh Try.prog els = true := by kernel_rfl
theorem run (n : Nat) (x0_0 : Int) (x0_1 : LL) (x0_2 : LL) (x1 : LL) {r : Bool} (h : (lv n).Bn x0_0 x0_1 x0_2 x1 = some r) : call Try.prog Jl kp n 4 [.v (.agg [.c (.int .i64 x0_0), .c (.row 25 x0_1), .c (.row 66 x0_2)]), .v (.one (.c (.row 30 x1)))] = some (Bn_r r) := by
  cases n with
  | zero => cases h
  | succ n =>
    rw [Bn_lv] at h
    obtain ⟨R, h1, h2⟩ := Av Aw (Ya n) rfl (fun _ _ h => Bn_dr h) h
    rw [Bn_dr h2] at h1
    exact h1
theorem walk {W : World} (hW : W.ShapedOpen Try.prog) {cs0 : Array Value} {xs0 : List C} (h0 : Am (Ac Try.prog W (fun A => A.block < W.heap.size)) xs0 cs0.toList) (hk0 : xs0.map C.kind = [.int .i64, .row 25, .row 66]) (hs0 : SmR BB xs0) {c1 : Value} {x1 : C} (h1 : Ac Try.prog W (fun A => A.block < W.heap.size) x1 c1) (hk1 : x1.kind = .row 30) (hs1 : Sm BB x1) :
    Calls Try.prog 4 #[.agg cs0, c1] W fun e W' => e = .returned (.bool true) ∧ Below W.heap.size W W' := by
  rcases xs0 with _ | ⟨y0_0, _ | ⟨y0_1, _ | ⟨y0_2, _ | ⟨y0_3, ys0⟩⟩⟩⟩ <;> simp only [List.map_cons, List.map_nil, List.cons.injEq, and_true, reduceCtorEq, and_false, List.nil_eq] at hk0
  obtain ⟨k0_0, k0_1, k0_2⟩ := hk0
  have e0_0 : y0_0.canon = .int .i64 y0_0.it := by rw [Lt, k0_0]; rfl
  have e0_1 : y0_1.canon = .row 25 y0_1.rows := by rw [Lt, k0_1]; rfl
  have e0_2 : y0_2.canon = .row 66 y0_2.rows := by rw [Lt, k0_2]; rfl
  have hr0 : ∀ i, SmL BB (gr [y0_0, y0_1, y0_2] i) := fun i => hs0.gr i
  have hz0 : ∀ i, (gs [y0_0, y0_1, y0_2] i).size ≤ BB := fun i => hs0.gs i
  have e1_0 : x1.canon = .row 30 x1.rows := by rw [Lt, hk1]; rfl
  have hr1 : SmL BB x1.rows := SmR.gr (r := [x1]) (fun y hy => by rw [List.mem_singleton.1 hy]; exact hs1) 0
  obtain ⟨n, r, q1, q2⟩ := ((show Tot (fun k _ _ => (lv k).Bn y0_0.it y0_1.rows y0_2.rows x1.rows) (fun r => r = true) from Ada [y0_0, y0_1, y0_2] x1.rows hs0 hr1)).get
  have hc := Vu Ye Yk Yj n _ _ _ (run n _ _ _ _ q2)
  rw [← e0_0, ← e0_1, ← e0_2, ← e1_0] at hc
  subst q1
  exact Vt hc (hood hW) (.agg (xs := [y0_0.canon, y0_1.canon, y0_2.canon]) (Am.map_left (f := C.canon) (h0.imp fun _ _ _ h => h.canon)) (.one (h1.canon) .nil)) rfl
set_option maxRecDepth 100000 in
theorem lifted (os : Os) (started : os.Started) (H : Type) (enc : TypeId × Value → H) (F : Stop.Interp) :
    ReturnsInHanded {} Try.checked os 4 .any ((Rows.OpenSpec.upto Rows.kindWholesSpec).pre6 enc Try.prog Try.f4 Rows.kindWholesUptoRow.domain false) (((Rows.OpenSpec.upto Rows.kindWholesSpec).at F).post enc Try.prog Try.f4 false true false false) := by
  refine Xb (C := Try.checked) (s := Rows.OpenSpec.upto Rows.kindWholesSpec) (k := Rows.uptoSmall) rfl own started (by kernel_rfl) Try.func4
    (OpenSpec.witness (enc := enc) (C := Try.checked) (s := Rows.OpenSpec.upto Rows.kindWholesSpec) (k := Rows.uptoSmall) rfl false ⟨#[], #[.agg #[.int .i64 0, .slice none 0 0, .slice none 0 0], .slice none 0 0], []⟩ 8 (by kernel_rfl) (by kernel_rfl) (by kernel_rfl) (x := ([.agg [.lit (.int .i64 0), .nil, .nil], .nil], [], [])) (by kernel_rfl) rfl (by kernel_rfl)) ?_
  intro W base args ds gs before hsh hval0 hW hk
  have hval : ∀ (j : Nat) t v, Try.f4.params[j]? = some t → args[j]? = some v → Value.okWide Try.prog W .any base t v := hval0
  have hW' := hW
  obtain ⟨p, q, hA0, hV, rfl, hfz, hnd⟩ := hW
  have hA : DataW.TrodAll enc Try.prog W 0 (fun _ => true) true Try.f4.params.toList args.toList ds p := hA0
  rw [Try.params4] at hA hval
  obtain ⟨v0, vs0, d0, ds0, p0, q0, hargs, rfl, rfl, h0, r0⟩ := trodAll_cons hA
  obtain ⟨v1, vs1, d1, ds1, p1, q1, rfl, rfl, rfl, h1, r1⟩ := trodAll_cons r0
  obtain ⟨rfl, rfl, rfl⟩ := trodAll_nil r1
  obtain rfl : args = #[v0, v1] := by cases args; simp_all
  obtain ⟨rfl, rfl⟩ := trodVars_none hV
  obtain ⟨cs0, rfl, _⟩ := okWide_struct Try.underlying25 (hval 0 25 v0 rfl rfl)
  have k0 := h0
  have lt0 : ∀ x ∈ p0, x.block < W.heap.size := by obtain ⟨m, hm⟩ := k0; exact DataW.trod_lt m _ _ _ hm
  obtain ⟨fuel0, hf0⟩ := h0
  obtain ⟨xs0, t0, kn0, sm0⟩ := Tu (S := els) Pu L9 P2 fuel0 25 _ _ 6 [.int .i64, .row 25, .row 66] hf0 (Tc hk (j := 0) rfl) (of_decide_eq_true (by kernel_rfl)) (by kernel_rfl) (fun e he => of_decide_eq_true (by simp at he; rcases he with rfl | rfl <;> kernel_rfl)) (by simp)
  obtain ⟨ad1, ln1, cp1, rfl⟩ := okWide_slice Try.underlying48 (hval 1 48 v1 rfl rfl)
  have k1 := h1
  have lt1 : ∀ x ∈ p1, x.block < W.heap.size := by obtain ⟨m, hm⟩ := k1; exact DataW.trod_lt m _ _ _ hm
  obtain ⟨fuel1, hf1⟩ := h1
  obtain ⟨xs1, t1, kn1, sm1⟩ := Tu (S := els) Pu L9 P2 fuel1 48 _ _ 6 [.row 30] hf1 (Tc hk (j := 1) rfl) (of_decide_eq_true (by kernel_rfl)) (by kernel_rfl) (fun e he => of_decide_eq_true (by simp at he; rcases he with rfl <;> kernel_rfl)) (by simp)
  obtain ⟨x1, u1, kx1, sx1⟩ : ∃ x, Ac Try.prog W (fun A => A.block < W.heap.size) x (.slice ad1 ln1 cp1) ∧ x.kind = .row 30 ∧ Sm BB x := by
    cases t1 with
    | cons h h' => cases h'; exact ⟨_, h, by simpa using kn1, sm1 _ (List.mem_singleton.2 rfl)⟩
  clear hA0 hval0
  refine (walk hsh t0 kn0 sm0 u1 kx1 sx1).mono fun e W' ⟨he, bel⟩ => ?_
  subst he
  exact ⟨_, rfl, _, _, _, [], _, [], hW', trodAll_mk1 (shut_bool Try.underlying4 _), (trodAll_cons_mk (Below.trod L9 (by kernel_rfl) (of_decide_eq_true (by kernel_rfl)) k0 bel lt0) (trodAll_cons_mk (Below.trod L9 (by kernel_rfl) (of_decide_eq_true (by kernel_rfl)) k1 bel lt1) trodAll_mk0)), rfl, bel.frame _, fun h => by cases h⟩
theorem over : Rows.kindWholesUptoRow.holds Try.pinned (Rows.OpenSpec.upto Rows.kindWholesSpec) :=
  OpenClaim.holds_of_cond 4 Try.f4 rfl rfl rfl rfl rfl rfl rfl ⟨rfl, rfl, rfl, rfl, rfl⟩ rfl rfl rfl rfl rfl (by kernel_rfl) Try.func4 (by kernel_rfl)
    (of_decide_eq_true (by kernel_rfl)) (by unfold Func.isWrapper; first | (rw [if_pos (by decide +kernel)]; kernel_rfl) | (rw [if_neg (by decide +kernel)]; exact ⟨rfl, rfl⟩))
    (fun os started H enc _ F => lifted os started H enc F)
theorem proved : Rows.KindWholesUptoSaid := over
#print axioms proved
end Go.Proofs.Ytkdlhnmidbnpkaa.kindWholes
namespace Go.Proofs.Ytkdlhnmidbnpkaa
theorem kindWholes_holds : Rows.KindWholesUptoSaid := kindWholes.proved
end Go.Proofs.Ytkdlhnmidbnpkaa
