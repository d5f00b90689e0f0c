/- The row. -/
import Derived.Test.YtkdlhnmidbnpkaaRows
import Derived.Test.YtkdlhnmidbnpkaaVmRest
import Derived.Test.YtkdlhnmidbnpkaaVmBase
namespace Go.Proofs.Ytkdlhnmidbnpkaa.kindTells
open Go.ChangeShapes Go.WideShapes Go.ChangeAt Go.RowKit Go.Proofs.Ytkdlhnmidbnpkaa.lwBase
open Go.ChangeMaps (open_string shut_string)
open Go.Vm Go.Vm.T
set_option linter.unusedVariables false
def els : List TypeId := [25, 66, 30, 86]
theorem Sc : O0 Try.prog els = true := by kernel_rfl
set_option maxRecDepth 100000 in
theorem run (n : Nat) (x0_0 : Int) (x0_1 : LL) (x0_2 : LL) (x1 : LL) {r : Bool} (h : (lv n).Av x0_0 x0_1 x0_2 x1 = some r) : call Try.prog Kp kp n 6 [.v (.agg [.c (.int .i64 x0_0), .c (.row 25 x0_1), .c (.row 66 x0_2)]), .v (.one (.c (.row 30 x1)))] = some (Av_r r) := by
 cases n with
 | zero => cases h
 | succ n =>
  have e : ∀ f : Int → LL → LL → LL → Option Bool, unc Av_c f (x0_0, x0_1, x0_2, x1) = f x0_0 x0_1 x0_2 x1 := fun _ => rfl
  rw [← e (lv (n + 1)).Av, Av_lv, Av_b, Az] at h
  obtain ⟨R, h1, h2⟩ := Ax Ay (Abv n) rfl (enc := Av_r) (Ad (.t (.one false)) [] Av_t) h
  have h3 : R = Av_r r := Av_dr h2
  rw [h3, show ea Av_k Av_c (x0_0, x0_1, x0_2, x1) = [.v (.agg [.c (.int .i64 x0_0), .c (.row 25 x0_1), .c (.row 66 x0_2)]), .v (.one (.c (.row 30 x1)))] by kernel_rfl] at h1
  exact h1
theorem walk {W : World} (hW : W.ShapedOpen Try.prog) {cs0 : Array Value} {xs0 : List C} (h0 : Aq (Ae Try.prog W (fun A => A.block < W.heap.size)) xs0 cs0.toList) (hk0 : xs0.map C.kind = [.int .i64, .row 25, .row 66]) (hs0 : SmR BB xs0) {c1 : Value} {x1 : C} (h1 : Ae Try.prog W (fun A => A.block < W.heap.size) x1 c1) (hk1 : x1.kind = .row 30) (hs1 : Sm BB x1) :
  Calls Try.prog 6 #[.agg cs0, c1] W fun e W' => e = .returned (.bool true) ∧ Below W.heap.size W W' := by
 rcases xs0 with _ | ⟨y0_0, _ | ⟨y0_1, _ | ⟨y0_2, _ | ⟨y0_3, ys0⟩⟩⟩⟩ <;> simp only [List.map_cons, List.map_nil, List.cons.injEq, and_true, reduceCtorEq, and_false, List.nil_eq] at hk0
 obtain ⟨k0_0, k0_1, k0_2⟩ := hk0
 have e0_0 : y0_0.canon = .int .i64 y0_0.it := by rw [M9, k0_0]; rfl
 have e0_1 : y0_1.canon = .row 25 y0_1.rows := by rw [M9, k0_1]; rfl
 have e0_2 : y0_2.canon = .row 66 y0_2.rows := by rw [M9, k0_2]; rfl
 have hr0 : ∀ i, SmL BB (gr [y0_0, y0_1, y0_2] i) := fun i => hs0.gr i
 have hz0 : ∀ i, (gs [y0_0, y0_1, y0_2] i).size ≤ BB := fun i => hs0.gs i
 have e1_0 : x1.canon = .row 30 x1.rows := by rw [M9, hk1]; rfl
 have hr1 : SmL BB x1.rows := SmR.gr (r := [x1]) (fun y hy => by rw [List.mem_singleton.1 hy]; exact hs1) 0
 obtain ⟨n, r, q1, q2⟩ := ((show Tot (fun k _ _ => (lv k).Av y0_0.it y0_1.rows y0_2.rows x1.rows) (fun r => r = true) from Age [y0_0, y0_1, y0_2] x1.rows hs0 hr1)).get
 have hc := Yp Ab2 Acc Acb n _ _ _ (run n _ _ _ _ q2)
 rw [← e0_0, ← e0_1, ← e0_2, ← e1_0] at hc
 subst q1
 exact Yo hc (hood hW) (.agg (xs := [y0_0.canon, y0_1.canon, y0_2.canon]) (Aq.map_left (f := C.canon) (h0.imp fun _ _ _ h => h.canon)) (.one (h1.canon) .nil)) rfl
set_option maxRecDepth 100000 in
theorem lifted (os : Os) (started : os.Started) (H : Type) (enc : TypeId × Value → H) (F : Stop.Interp) :
  ReturnsInHanded {} Try.checked os 6 .any ((Rows.OpenSpec.upto Rows.kindTellsSpec).pre6 enc Try.prog Try.f6 Rows.kindTellsUptoRow.domain false) (((Rows.OpenSpec.upto Rows.kindTellsSpec).at F).post enc Try.prog Try.f6 false true false false) := by
 refine Aap (C := Try.checked) (s := Rows.OpenSpec.upto Rows.kindTellsSpec) (k := Rows.uptoSmall) rfl own started (by kernel_rfl) Try.func6
  (OpenSpec.witness (enc := enc) (C := Try.checked) (s := Rows.OpenSpec.upto Rows.kindTellsSpec) (k := Rows.uptoSmall) rfl false ⟨#[], #[.agg #[.int .i64 0, .slice none 0 0, .slice none 0 0], .slice none 0 0], []⟩ 8 (by kernel_rfl) (by kernel_rfl) (by kernel_rfl) (x := ([.agg [.lit (.int .i64 0), .nil, .nil], .nil], [], [])) (by kernel_rfl) rfl (by kernel_rfl)) ?_
 intro W base args ds gs before hsh hval0 hW hk
 have hval : ∀ (j : Nat) t v, Try.f6.params[j]? = some t → args[j]? = some v → Value.okWide Try.prog W .any base t v := hval0
 have hW' := hW
 obtain ⟨p, q, hA0, hV, rfl, hfz, hnd⟩ := hW
 have hA : DataW.TrodAll enc Try.prog W 0 (fun _ => true) true Try.f6.params.toList args.toList ds p := hA0
 rw [Try.params6] at hA hval
 obtain ⟨v0, vs0, d0, ds0, p0, q0, hargs, rfl, rfl, h0, r0⟩ := trodAll_cons hA
 obtain ⟨v1, vs1, d1, ds1, p1, q1, rfl, rfl, rfl, h1, r1⟩ := trodAll_cons r0
 obtain ⟨rfl, rfl, rfl⟩ := trodAll_nil r1
 obtain rfl : args = #[v0, v1] := by cases args; simp_all
 obtain ⟨rfl, rfl⟩ := trodVars_none hV
 obtain ⟨cs0, rfl, _⟩ := okWide_struct Try.underlying25 (hval 0 25 v0 rfl rfl)
 have k0 := h0
 have lt0 : ∀ x ∈ p0, x.block < W.heap.size := by obtain ⟨m, hm⟩ := k0; exact DataW.trod_lt m _ _ _ hm
 obtain ⟨fuel0, hf0⟩ := h0
 obtain ⟨xs0, t0, kn0, sm0⟩ := Wl (S := els) Rv No Sc fuel0 25 _ _ 6 [.int .i64, .row 25, .row 66] hf0 (V3 hk (j := 0) rfl) (of_decide_eq_true (by kernel_rfl)) (by kernel_rfl) (fun e he => of_decide_eq_true (by simp at he; rcases he with rfl | rfl <;> kernel_rfl)) (by simp)
 obtain ⟨ad1, ln1, cp1, rfl⟩ := okWide_slice Try.underlying48 (hval 1 48 v1 rfl rfl)
 have k1 := h1
 have lt1 : ∀ x ∈ p1, x.block < W.heap.size := by obtain ⟨m, hm⟩ := k1; exact DataW.trod_lt m _ _ _ hm
 obtain ⟨fuel1, hf1⟩ := h1
 obtain ⟨xs1, t1, kn1, sm1⟩ := Wl (S := els) Rv No Sc fuel1 48 _ _ 6 [.row 30] hf1 (V3 hk (j := 1) rfl) (of_decide_eq_true (by kernel_rfl)) (by kernel_rfl) (fun e he => of_decide_eq_true (by simp at he; rcases he with rfl <;> kernel_rfl)) (by simp)
 obtain ⟨x1, u1, kx1, sx1⟩ : ∃ x, Ae Try.prog W (fun A => A.block < W.heap.size) x (.slice ad1 ln1 cp1) ∧ x.kind = .row 30 ∧ Sm BB x := by
  cases t1 with
  | cons h h' => cases h'; exact ⟨_, h, by simpa using kn1, sm1 _ (List.mem_singleton.2 rfl)⟩
 clear hA0 hval0
 refine (walk hsh t0 kn0 sm0 u1 kx1 sx1).mono fun e W' ⟨he, bel⟩ => ?_
 subst he
 exact ⟨_, rfl, _, _, _, [], _, [], hW', trodAll_mk1 (shut_bool Try.underlying4 _), (trodAll_cons_mk (Below.trod No (by kernel_rfl) (of_decide_eq_true (by kernel_rfl)) k0 bel lt0) (trodAll_cons_mk (Below.trod No (by kernel_rfl) (of_decide_eq_true (by kernel_rfl)) k1 bel lt1) trodAll_mk0)), rfl, bel.frame _, fun h => by cases h⟩
theorem over : Rows.kindTellsUptoRow.holds Try.pinned (Rows.OpenSpec.upto Rows.kindTellsSpec) :=
 OpenClaim.holds_of_cond 6 Try.f6 rfl rfl rfl rfl rfl rfl rfl ⟨rfl, rfl, rfl, rfl, rfl⟩ rfl rfl rfl rfl rfl (by kernel_rfl) Try.func6 (by kernel_rfl)
  (of_decide_eq_true (by kernel_rfl)) (by unfold Func.isWrapper; first | (rw [if_pos (by decide +kernel)]; kernel_rfl) | (rw [if_neg (by decide +kernel)]; exact ⟨rfl, rfl⟩))
  (fun os started H enc _ F => lifted os started H enc F)
theorem proved : Rows.KindTellsUptoSaid := over
#print axioms proved
end Go.Proofs.Ytkdlhnmidbnpkaa.kindTells
namespace Go.Proofs.Ytkdlhnmidbnpkaa
theorem kindTells_holds : Rows.KindTellsUptoSaid := kindTells.proved
end Go.Proofs.Ytkdlhnmidbnpkaa
