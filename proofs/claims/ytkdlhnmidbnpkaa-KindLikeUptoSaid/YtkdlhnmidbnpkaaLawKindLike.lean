/- The row. -/
import Derived.Test.YtkdlhnmidbnpkaaRows
import Derived.Test.YtkdlhnmidbnpkaaVmMore
import Derived.Test.YtkdlhnmidbnpkaaVmBase
/- oriellaw: KindLike, for all input of bulk at most 1048576: it answers true. -/
namespace Go.Proofs.Ytkdlhnmidbnpkaa.kindLike
open Go.ChangeShapes Go.WideShapes Go.ChangeAt Go.RowKit Go.Proofs.Ytkdlhnmidbnpkaa.lwBase
open Go.ChangeMaps (open_string shut_string)
open Go.Vm Go.Vm.T
set_option linter.unusedVariables false
def els : List TypeId := [25, 66, 86]
theorem closed : closedB Try.prog els = true := by kernel_rfl
theorem run (n : Nat) (x0_0 : Int) (x0_1 : LL) (x0_2 : LL) (x1_0 : Int) (x1_1 : ByteArray) (x1_2 : ByteArray) (x1_3 : LL) (x1_4 : ByteArray) (x2_0 : Int) (x2_1 : ByteArray) (x2_2 : ByteArray) (x2_3 : LL) (x2_4 : ByteArray) (x3 : Int) (x4 : Int) (x5 : Int) {r : Bool} (h : (lv n).oriellaw20_KindLike x0_0 x0_1 x0_2 x1_0 x1_1 x1_2 x1_3 x1_4 x2_0 x2_1 x2_2 x2_3 x2_4 x3 x4 x5 = some r) : call Try.prog noExt kp n 7 [.v (.agg [.c (.int .i64 x0_0), .c (.row 25 x0_1), .c (.row 66 x0_2)]), .v (.agg [.c (.int .i64 x1_0), .c (.str x1_1), .c (.str x1_2), .c (.row 86 x1_3), .c (.str x1_4)]), .v (.agg [.c (.int .i64 x2_0), .c (.str x2_1), .c (.str x2_2), .c (.row 86 x2_3), .c (.str x2_4)]), .v (.one (.c (.int .u64 x3))), .v (.one (.c (.int .u64 x4))), .v (.one (.c (.int .u8 x5)))] = some (oriellaw20_KindLike_r r) := by
  cases n with
  | zero => cases h
  | succ n =>
    rw [oriellaw20_KindLike_lv] at h
    obtain ⟨R, h1, h2⟩ := bodyK_ok noEq_ok (lv_ok n) rfl (fun _ _ h => oriellaw20_KindLike_dr h) h
    rw [oriellaw20_KindLike_dr h2] at h1
    exact h1
theorem walk {W : World} {cs0 : Array Value} {xs0 : List C} (h0 : All2 (CRep Try.prog W (fun k => k < W.heap.size)) xs0 cs0.toList) (hk0 : xs0.map C.kind = [.int .i64, .row 25, .row 66]) (hs0 : SmR BB xs0) {cs1 : Array Value} {xs1 : List C} (h1 : All2 (CRep Try.prog W (fun k => k < W.heap.size)) xs1 cs1.toList) (hk1 : xs1.map C.kind = [.int .i64, .str, .str, .row 86, .str]) (hs1 : SmR BB xs1) {cs2 : Array Value} {xs2 : List C} (h2 : All2 (CRep Try.prog W (fun k => k < W.heap.size)) xs2 cs2.toList) (hk2 : xs2.map C.kind = [.int .i64, .str, .str, .row 86, .str]) (hs2 : SmR BB xs2) (a3 : Int) (w3 : (Lit.int .u64 a3).wf = true) (a4 : Int) (w4 : (Lit.int .u64 a4).wf = true) (a5 : Int) (w5 : (Lit.int .u8 a5).wf = true) :
    Calls Try.prog 7 #[.agg cs0, .agg cs1, .agg cs2, .int .u64 a3, .int .u64 a4, .int .u8 a5] W fun e W' => e = .returned (.bool true) ∧ Below W.heap.size W W' := by
  rcases xs0 with _ | ⟨y0_0, _ | ⟨y0_1, _ | ⟨y0_2, _ | ⟨y0_3, ys0⟩⟩⟩⟩ <;> simp only [List.map_cons, List.map_nil, List.cons.injEq, and_true, reduceCtorEq, and_false, List.nil_eq] at hk0
  obtain ⟨k0_0, k0_1, k0_2⟩ := hk0
  have e0_0 : y0_0.canon = .int .i64 y0_0.it := by rw [canon_as, k0_0]; rfl
  have e0_1 : y0_1.canon = .row 25 y0_1.rows := by rw [canon_as, k0_1]; rfl
  have e0_2 : y0_2.canon = .row 66 y0_2.rows := by rw [canon_as, k0_2]; rfl
  have hr0 : ∀ i, SmL BB (gr [y0_0, y0_1, y0_2] i) := fun i => hs0.gr i
  have hz0 : ∀ i, (gs [y0_0, y0_1, y0_2] i).size ≤ BB := fun i => hs0.gs i
  rcases xs1 with _ | ⟨y1_0, _ | ⟨y1_1, _ | ⟨y1_2, _ | ⟨y1_3, _ | ⟨y1_4, _ | ⟨y1_5, ys1⟩⟩⟩⟩⟩⟩ <;> simp only [List.map_cons, List.map_nil, List.cons.injEq, and_true, reduceCtorEq, and_false, List.nil_eq] at hk1
  obtain ⟨k1_0, k1_1, k1_2, k1_3, k1_4⟩ := hk1
  have e1_0 : y1_0.canon = .int .i64 y1_0.it := by rw [canon_as, k1_0]; rfl
  have e1_1 : y1_1.canon = .str y1_1.st := by rw [canon_as, k1_1]; rfl
  have e1_2 : y1_2.canon = .str y1_2.st := by rw [canon_as, k1_2]; rfl
  have e1_3 : y1_3.canon = .row 86 y1_3.rows := by rw [canon_as, k1_3]; rfl
  have e1_4 : y1_4.canon = .str y1_4.st := by rw [canon_as, k1_4]; rfl
  have hr1 : ∀ i, SmL BB (gr [y1_0, y1_1, y1_2, y1_3, y1_4] i) := fun i => hs1.gr i
  have hz1 : ∀ i, (gs [y1_0, y1_1, y1_2, y1_3, y1_4] i).size ≤ BB := fun i => hs1.gs i
  rcases xs2 with _ | ⟨y2_0, _ | ⟨y2_1, _ | ⟨y2_2, _ | ⟨y2_3, _ | ⟨y2_4, _ | ⟨y2_5, ys2⟩⟩⟩⟩⟩⟩ <;> simp only [List.map_cons, List.map_nil, List.cons.injEq, and_true, reduceCtorEq, and_false, List.nil_eq] at hk2
  obtain ⟨k2_0, k2_1, k2_2, k2_3, k2_4⟩ := hk2
  have e2_0 : y2_0.canon = .int .i64 y2_0.it := by rw [canon_as, k2_0]; rfl
  have e2_1 : y2_1.canon = .str y2_1.st := by rw [canon_as, k2_1]; rfl
  have e2_2 : y2_2.canon = .str y2_2.st := by rw [canon_as, k2_2]; rfl
  have e2_3 : y2_3.canon = .row 86 y2_3.rows := by rw [canon_as, k2_3]; rfl
  have e2_4 : y2_4.canon = .str y2_4.st := by rw [canon_as, k2_4]; rfl
  have hr2 : ∀ i, SmL BB (gr [y2_0, y2_1, y2_2, y2_3, y2_4] i) := fun i => hs2.gr i
  have hz2 : ∀ i, (gs [y2_0, y2_1, y2_2, y2_3, y2_4] i).size ≤ BB := fun i => hs2.gs i
  obtain ⟨n, r, q1, q2⟩ := ((show Tot (fun k _ _ => (lv k).oriellaw20_KindLike y0_0.it y0_1.rows y0_2.rows y1_0.it y1_1.st y1_2.st y1_3.rows y1_4.st y2_0.it y2_1.st y2_2.st y2_3.rows y2_4.st a3 a4 a5) (fun r => r = true) from like_tot [y0_0, y0_1, y0_2] [y1_0, y1_1, y1_2, y1_3, y1_4] [y2_0, y2_1, y2_2, y2_3, y2_4] a3 a4 a5 hs0 hs1 hs2)).get
  have hc := call_sound mixed noGor noExt_ok n _ _ _ (run n _ _ _ _ _ _ _ _ _ _ _ _ _ _ _ _ q2)
  rw [← e0_0, ← e0_1, ← e0_2, ← e1_0, ← e1_1, ← e1_2, ← e1_3, ← e1_4, ← e2_0, ← e2_1, ← e2_2, ← e2_3, ← e2_4] at hc
  subst q1
  exact callOK_below hc (.agg (xs := [y0_0.canon, y0_1.canon, y0_2.canon]) (All2.map_left (f := C.canon) (h0.imp fun _ _ _ h => h.canon)) (.agg (xs := [y1_0.canon, y1_1.canon, y1_2.canon, y1_3.canon, y1_4.canon]) (All2.map_left (f := C.canon) (h1.imp fun _ _ _ h => h.canon)) (.agg (xs := [y2_0.canon, y2_1.canon, y2_2.canon, y2_3.canon, y2_4.canon]) (All2.map_left (f := C.canon) (h2.imp fun _ _ _ h => h.canon)) (.one (.int _ _) (.one (.int _ _) (.one (.int _ _) .nil)))))) rfl
set_option maxRecDepth 100000 in
theorem lifted (os : Os) (started : os.Started) (H : Type) (enc : TypeId × Value → H) (F : Stop.Interp) :
    ReturnsInHanded {} Try.checked os 7 .any ((Rows.OpenSpec.upto Rows.kindLikeSpec).pre6 enc Try.prog Try.f7 Rows.kindLikeUptoRow.domain false) (((Rows.OpenSpec.upto Rows.kindLikeSpec).at F).post enc Try.prog Try.f7 false true false false) := by
  refine returnsInHanded_of_cond (C := Try.checked) (s := Rows.OpenSpec.upto Rows.kindLikeSpec) (k := Rows.uptoSmall) rfl own started (by kernel_rfl) Try.func7
    (OpenSpec.witness (enc := enc) (C := Try.checked) (s := Rows.OpenSpec.upto Rows.kindLikeSpec) (k := Rows.uptoSmall) rfl false ⟨#[], #[.agg #[.int .i64 0, .slice none 0 0, .slice none 0 0], .agg #[.int .i64 0, .string ByteArray.empty, .string ByteArray.empty, .slice none 0 0, .string ByteArray.empty], .agg #[.int .i64 0, .string ByteArray.empty, .string ByteArray.empty, .slice none 0 0, .string ByteArray.empty], .int .u64 0, .int .u64 0, .int .u8 0], []⟩ 8 (by kernel_rfl) (by kernel_rfl) (by kernel_rfl) (x := ([.agg [.lit (.int .i64 0), .nil, .nil], .agg [.lit (.int .i64 0), .agg [.lit (.string []), .lit (.string [])], .nil, .lit (.string [])], .agg [.lit (.int .i64 0), .agg [.lit (.string []), .lit (.string [])], .nil, .lit (.string [])], .lit (.int .u64 0), .lit (.int .u64 0), .lit (.int .u8 0)], [], [])) (by kernel_rfl) rfl (by kernel_rfl)) ?_
  intro W base args ds gs before hval0 hW hcnd hk _
  have hval : ∀ (j : Nat) t v, Try.f7.params[j]? = some t → args[j]? = some v → Value.okWide Try.prog W .any base t v := hval0
  have hW' := hW
  obtain ⟨p, q, hA0, hV, rfl, hfz, hnd⟩ := hW
  have hA : DataW.TrodAll enc Try.prog W 0 (fun _ => true) true Try.f7.params.toList args.toList ds p := hA0
  rw [Try.params7] at hA hval
  obtain ⟨v0, vs0, d0, ds0, p0, q0, hargs, rfl, rfl, h0, r0⟩ := trodAll_cons hA
  obtain ⟨v1, vs1, d1, ds1, p1, q1, rfl, rfl, rfl, h1, r1⟩ := trodAll_cons r0
  obtain ⟨v2, vs2, d2, ds2, p2, q2, rfl, rfl, rfl, h2, r2⟩ := trodAll_cons r1
  obtain ⟨v3, vs3, d3, ds3, p3, q3, rfl, rfl, rfl, h3, r3⟩ := trodAll_cons r2
  obtain ⟨v4, vs4, d4, ds4, p4, q4, rfl, rfl, rfl, h4, r4⟩ := trodAll_cons r3
  obtain ⟨v5, vs5, d5, ds5, p5, q5, rfl, rfl, rfl, h5, r5⟩ := trodAll_cons r4
  obtain ⟨rfl, rfl, rfl⟩ := trodAll_nil r5
  obtain rfl : args = #[v0, v1, v2, v3, v4, v5] := by cases args; simp_all
  obtain ⟨rfl, rfl⟩ := trodVars_none hV
  obtain ⟨cs0, rfl, _⟩ := okWide_struct Try.underlying25 (hval 0 25 v0 rfl rfl)
  have k0 := h0
  have lt0 : ∀ x ∈ p0, x.block < W.heap.size := by obtain ⟨m, hm⟩ := k0; exact DataW.trod_lt m _ _ _ hm
  obtain ⟨fuel0, hf0⟩ := h0
  obtain ⟨xs0, t0, kn0, sm0⟩ := trod_rep (S := els) bulk laidOut closed fuel0 25 _ _ 6 [.int .i64, .row 25, .row 66] hf0 (small_of hk (j := 0) rfl) (of_decide_eq_true (by kernel_rfl)) (by kernel_rfl) (fun e he => of_decide_eq_true (by simp at he; rcases he with rfl | rfl <;> kernel_rfl)) (by simp)
  obtain ⟨cs1, rfl, _⟩ := okWide_struct Try.underlying30 (hval 1 30 v1 rfl rfl)
  have k1 := h1
  have lt1 : ∀ x ∈ p1, x.block < W.heap.size := by obtain ⟨m, hm⟩ := k1; exact DataW.trod_lt m _ _ _ hm
  obtain ⟨fuel1, hf1⟩ := h1
  obtain ⟨xs1, t1, kn1, sm1⟩ := trod_rep (S := els) bulk laidOut closed fuel1 30 _ _ 6 [.int .i64, .str, .str, .row 86, .str] hf1 (small_of hk (j := 1) rfl) (of_decide_eq_true (by kernel_rfl)) (by kernel_rfl) (fun e he => of_decide_eq_true (by simp at he; rcases he with rfl <;> kernel_rfl)) (by simp)
  obtain ⟨cs2, rfl, _⟩ := okWide_struct Try.underlying30 (hval 2 30 v2 rfl rfl)
  have k2 := h2
  have lt2 : ∀ x ∈ p2, x.block < W.heap.size := by obtain ⟨m, hm⟩ := k2; exact DataW.trod_lt m _ _ _ hm
  obtain ⟨fuel2, hf2⟩ := h2
  obtain ⟨xs2, t2, kn2, sm2⟩ := trod_rep (S := els) bulk laidOut closed fuel2 30 _ _ 6 [.int .i64, .str, .str, .row 86, .str] hf2 (small_of hk (j := 2) rfl) (of_decide_eq_true (by kernel_rfl)) (by kernel_rfl) (fun e he => of_decide_eq_true (by simp at he; rcases he with rfl <;> kernel_rfl)) (by simp)
  obtain ⟨a3, rfl, rfl, rfl, w3⟩ := open_int Try.underlying31 (hval 3 31 v3 rfl rfl) h3
  obtain ⟨a4, rfl, rfl, rfl, w4⟩ := open_int Try.underlying31 (hval 4 31 v4 rfl rfl) h4
  obtain ⟨a5, rfl, rfl, rfl, w5⟩ := open_int Try.underlying5 (hval 5 5 v5 rfl rfl) h5
  clear hA0 hval0
  refine (walk t0 kn0 sm0 t1 kn1 sm1 t2 kn2 sm2 a3 w3 a4 w4 a5 w5).mono fun e W' ⟨he, bel⟩ => ?_
  subst he
  exact ⟨_, rfl, _, _, _, [], _, [], hW', trodAll_mk1 (shut_bool Try.underlying4 _), (trodAll_cons_mk (Below.trod laidOut (by kernel_rfl) (of_decide_eq_true (by kernel_rfl)) k0 bel lt0) (trodAll_cons_mk (Below.trod laidOut (by kernel_rfl) (of_decide_eq_true (by kernel_rfl)) k1 bel lt1) (trodAll_cons_mk (Below.trod laidOut (by kernel_rfl) (of_decide_eq_true (by kernel_rfl)) k2 bel lt2) (trodAll_cons_mk (shut_int Try.underlying31 w3) (trodAll_cons_mk (shut_int Try.underlying31 w4) (trodAll_cons_mk (shut_int Try.underlying5 w5) trodAll_mk0)))))), rfl, bel.frame _, fun h => by cases h⟩
theorem over : Rows.kindLikeUptoRow.holds Try.pinned (Rows.OpenSpec.upto Rows.kindLikeSpec) :=
  OpenClaim.holds_of_cond 7 Try.f7 rfl rfl rfl rfl rfl rfl rfl ⟨rfl, rfl, rfl, rfl, rfl⟩ rfl rfl rfl rfl rfl (by kernel_rfl) Try.func7 (by kernel_rfl)
    (of_decide_eq_true (by kernel_rfl)) (by unfold Func.isWrapper; first | (rw [if_pos (by decide +kernel)]; kernel_rfl) | (rw [if_neg (by decide +kernel)]; exact ⟨rfl, rfl⟩))
    (fun os started H enc _ F => lifted os started H enc F)
theorem proved : Rows.KindLikeUptoSaid := over
#print axioms proved
end Go.Proofs.Ytkdlhnmidbnpkaa.kindLike
namespace Go.Proofs.Ytkdlhnmidbnpkaa
/-- The row, under a short name, for the claim. -/
theorem kindLike_holds : Rows.KindLikeUptoSaid := kindLike.proved
end Go.Proofs.Ytkdlhnmidbnpkaa
