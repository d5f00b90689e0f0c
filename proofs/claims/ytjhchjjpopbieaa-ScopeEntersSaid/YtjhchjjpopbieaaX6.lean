/- Printed by a program of this session (xprint) out of the kit's print, with functions proved by hand. -/
import Derived.Test.YtjhchjjpopbieaaX0
import Derived.Test.YtjhchjjpopbieaaX5
namespace Go.Proofs.Ytjhchjjpopbieaa.X
open Go.RowKit Go.Proofs.YtjhchjjpopbieaaW.PrintWords Go.Proofs.YtjhchjjpopbieaaW.PrintLast Go.Proofs.YtjhchjjpopbieaaW.PrintMore Go.Proofs.YtjhchjjpopbieaaW.XConv
attribute [local go_sem] max2_int min2_int max_two min_two max_three min_three max_four min_four   -- for this text's walks alone
set_option linter.unusedVariables false
set_option linter.unusedSimpArgs false

/-! ### scope_Find: function 12 -/
/-- the first binding of a list that binds a prefix -/
def fnd (a : ByteArray) : List S44 → Option ByteArray
 | [] => none
 | b :: l => if (b.f0.toList == a.toList) = true then some b.f1 else fnd a l
theorem fnd_none {a : ByteArray} : ∀ {l : List S44}, (∀ b, b ∈ l → (b.f0.toList == a.toList) = false) → fnd a l = none
 | [], _ => rfl
 | b :: l, h => by
  unfold fnd
  rw [if_neg (by rw [h b List.mem_cons_self]; exact Bool.false_ne_true)]
  exact fnd_none fun x hx => h x (List.mem_cons_of_mem _ hx)
theorem fnd_some {a : ByteArray} {x : S44} {r : List S44} (hx : (x.f0.toList == a.toList) = true) : ∀ {l : List S44}, (∀ b, b ∈ l → (b.f0.toList == a.toList) = false) → fnd a (l ++ x :: r) = some x.f1
 | [], _ => by
  show fnd a (x :: r) = some x.f1
  unfold fnd
  rw [if_pos hx]
 | b :: l, h => by
  show fnd a (b :: (l ++ x :: r)) = some x.f1
  unfold fnd
  rw [if_neg (by rw [h b List.mem_cons_self]; exact Bool.false_ne_true)]
  exact fnd_some hx fun x hx => h x (List.mem_cons_of_mem _ hx)
def findR (l0 : List S44) (a1 : ByteArray) : ByteArray × Bool := match fnd a1 l0.reverse with | some s => (s, true) | none => (⟨#[]⟩, (a1.toList == ([] : List UInt8)))
def scope_Find.f (l0 : List S44) (a1 : ByteArray) : Option (ByteArray × Bool) := some (findR l0 a1)
section
open Go.Shelf
attribute [local go_sem] Oper.semAt_some
def bwx (zs : List S44) (j : Nat) : Int × S44 := (((zs.length : Int) - 1 - j), rd_T44 zs ((zs.length : Int) - 1 - j))
theorem bw_reverse (zs : List S44) : (upto (bwx zs) zs.length).map (·.2) = zs.reverse := by
 rw [← upto_reverse zs z44]
 simp only [upto, bwx, List.map_map]
 apply List.map_congr_left
 intro j hj
 have := List.mem_range.1 hj
 show zs.getD ((zs.length : Int) - 1 - j).toNat z44 = _
 rw [show ((zs.length : Int) - 1 - j).toNat = zs.length - 1 - j by omega]
set_option maxRecDepth 100000 in
set_option maxHeartbeats 8000000 in
theorem bw1_in (F : Fence) (n : Nat) (h7 : F.fn 33) (hro : F.round = none) (hn : 1 ≤ n) (l Bs : Nat) (A : Option Addr) (cp : Nat) (zs : List S44) (w1 : World)
  (hBs : Bs < w1.heap.size) (hc : w1.cell? ⟨Bs, 0, none⟩ = some (.slice A zs.length cp)) (hC : Kd.C k44 w1 A zs.length zs) (J Jx : List (Int × S44) → World → Prop)
  (hY : ∀ pre x W, J pre W → pre.length < zs.length → YieldAt F (n - 1) Try.prog l #[.int .i64 x.1, .agg #[.string x.2.f0, .string x.2.f1]] W fun e W' =>
   (e = .returned (.bool true) ∧ J (pre ++ [x]) W' ∧ Below w1.heap.size W W') ∨ (e = .returned (.bool false) ∧ Jx (pre ++ [x]) W'))
  (W : World) (hW : Below w1.heap.size w1 W) (h0 : J [] W) :
  CallsIn F n Try.prog 33 #[.func (.yield l) #[] #[], .pointer (some ⟨Bs, 0, none⟩)] W fun e W' => (∃ v, e = .returned v) ∧
   ((∃ ys, ys = upto (bwx zs) zs.length ∧ J ys W') ∨ (∃ pre, (∃ k, k ≤ zs.length ∧ pre = upto (bwx zs) k) ∧ Jx pre W')) := by
 have hlen := hC.2.1
 have hcell : ∀ W', Below w1.heap.size w1 W' → W'.cell? ⟨Bs, 0, none⟩ = some (.slice A zs.length cp) := fun W' h => (h.cell (p := ⟨Bs, 0, none⟩) hBs).trans hc
 have hrow : ∀ W', Below w1.heap.size w1 W' → Kd.C k44 W' A zs.length zs := fun W' h => Kd.C_below hC h
 have HCL := Aside0.mk hcell
 have HRW := Aside0.mk hrow
 have hcW := hcell W hW
 have HW := Aside0.mk hW
 clear hcell hrow hc hC hW
 refine callsIn_of_wp Try.func33 rfl h7 ?_ hro
 simp only [Try.ntmps33, List.size_toArray, List.length_cons, List.length_nil, Nat.reduceAdd, Nat.reduceSub, Array.replicate_succ, Array.replicate_zero, List.push_toArray, List.append_toArray, List.nil_append, List.cons_append]
 gi_wp2
 gi_loopw [3] (fun i wr => ∃ k : Nat, k ≤ zs.length ∧ i = .int .i64 ((zs.length : Int) - 1 - k) ∧ J (upto (bwx zs) k) wr ∧ Aside0 (Below w1.heap.size w1 wr))
  (fun i _ => (intOf i + 1).toNat)
 case atStart => exact ⟨0, Nat.zero_le _, by simp, h0, HW⟩
 case round =>
  obtain ⟨k, hk, rfl, hJs, HB⟩ := hrel
  have hcx := HCL.out _ HB.out
  by_cases hlt : k < zs.length
  ·
   obtain ⟨fn, tmps, assign, body, hy, hR⟩ := hY _ (bwx zs k) wr hJs (by rw [upto_length]; exact hlt)
   have HR := Aside0.mk hR
   clear hR
   obtain ⟨ad, hA, h1, h2⟩ := at_T44 (HRW.out _ HB.out) ((zs.length : Int) - 1 - k) (by omega) (by omega)
   subst hA
   simp only [bwx] at hy
   rw [show ((zs.length : Int) - 1 - k).toNat = zs.length - 1 - k by omega] at h1 h2
   have hpos : 0 ≤ (zs.length : Int) - 1 - k := by omega
   have hlt2 : (zs.length : Int) - 1 - k < zs.length := by omega
   gi_wp2
   refine HR.out.mono ?_
   rintro e W3 (⟨rfl, hJ3, hk3⟩ | ⟨rfl, hJx3⟩)
   ·
    gi_wp2
    go_roundw
    case rel => exact ⟨k + 1, by omega, by simp; omega, by rw [upto_succ]; exact hJ3, ⟨HB.out.trans hk3⟩⟩
    case measure => simp [intOf]; omega
   ·
    gi_wp2
    refine bodyPost_ret (results_none rfl _ _ _) rfl ?_
    exact ⟨⟨_, rfl⟩, .inr ⟨_, ⟨k + 1, by omega, (upto_succ _ _).symm⟩, hJx3⟩⟩
  ·
   obtain rfl : k = zs.length := by omega
   gi_wp2
   go_end0
   exact ⟨⟨_, rfl⟩, .inl ⟨_, rfl, hJs⟩⟩
theorem bw_stops (F : Fence) (n : Nat) (h7 : F.fn 33) (hro : F.round = none) (hn : 1 ≤ n) (Bs : Nat) (A : Option Addr) (cp : Nat) (zs : List S44) (w1 : World)
  (hBs : Bs < w1.heap.size) (hc : w1.cell? ⟨Bs, 0, none⟩ = some (.slice A zs.length cp)) (hC : Kd.C k44 w1 A zs.length zs) :
  SeqStopsK F n Try.prog 33 #[.pointer (some ⟨Bs, 0, none⟩)] (fun x : Int × S44 => #[.int .i64 x.1, .agg #[.string x.2.f0, .string x.2.f1]]) (Below w1.heap.size) (fun ys => ys = upto (bwx zs) zs.length)
   (fun pre => ∃ k, k ≤ zs.length ∧ pre = upto (bwx zs) k) zs.length w1 := fun l J Jx W hW _ _ hY h0 => bw1_in F n h7 hro hn l Bs A cp zs w1 hBs hc hC J Jx hY W hW h0
set_option maxRecDepth 100000 in
set_option maxHeartbeats 8000000 in
theorem backward_in (F : Fence) (n : Nat) (h5 : F.fn 29) (hro : F.round = none) (a : Option Addr) (len cap : Nat) (w : World) :
  CallsIn F n Try.prog 29 #[.slice a len cap] w fun e w' => e = .returned (.func (.func 33) #[] #[.pointer (some ⟨w.heap.size, 0, none⟩)]) ∧ w' = w.alloc (.cells #[.slice a len cap] 22) := by
 refine callsIn_of_wp Try.func29 rfl h5 ?_ hro
 simp only [Try.ntmps29, List.size_toArray, List.length_cons, List.length_nil, Nat.reduceAdd, Nat.reduceSub, Array.replicate_succ, Array.replicate_zero, List.push_toArray, List.append_toArray, List.nil_append, List.cons_append]
 gi_wp2
 go_ret
 exact ⟨rfl, rfl⟩
set_option maxRecDepth 100000 in
set_option maxHeartbeats 8000000 in
theorem find_in (A0 : Option Addr) (c0 : Nat) (l0 : List S44) (a1 : ByteArray) (w : World) (hr0 : Kd.C k44 w A0 l0.length l0) (F : Fence) (n : Nat) (h3 : F.fn 12) (h4 : F.fn 29) (h5 : F.fn 33) (hro : F.round = none) (hn : 6 ≤ n) :
  CallsIn F n Try.prog 12 #[.slice A0 l0.length c0, .string a1] w fun e w' => e = .returned (.tuple #[.string (findR l0 a1).1, .bool (findR l0 a1).2]) ∧ Below w.heap.size w w' := by
 have h1 : 1 ≤ n := by omega
 have HR0 := Aside0.mk hr0
 clear hr0
 refine callsIn_of_wp_marks Try.func12 rfl h3 ?_ hro
 simp only [Try.ntmps12, List.size_toArray, List.length_cons, List.length_nil, Nat.reduceAdd, Nat.reduceSub, Array.replicate_succ, Array.replicate_zero, List.push_toArray, List.append_toArray, List.nil_append, List.cons_append]
 gi_wp2_with (gi_at_call 29; refine (backward_in F (n - 1) h4 hro _ _ _ _).mono ?_; rintro e w' ⟨rfl, rfl⟩)
 have bP := (((Boxed.new w 9 (.string a1)).alloc (.cells #[.string ⟨#[]⟩] 9)).alloc (.cells #[.bool false] 4)).alloc (.cells #[.slice A0 l0.length c0] 22)
 have bS := ((Boxed.new (w.alloc (.cells #[.string a1] 9)) 9 (.string ⟨#[]⟩)).alloc (.cells #[.bool false] 4)).alloc (.cells #[.slice A0 l0.length c0] 22)
 have bK := (Boxed.new ((w.alloc (.cells #[.string a1] 9)).alloc (.cells #[.string ⟨#[]⟩] 9)) 4 (.bool false)).alloc (.cells #[.slice A0 l0.length c0] 22)
 have bN := Boxed.new (((w.alloc (.cells #[.string a1] 9)).alloc (.cells #[.string ⟨#[]⟩] 9)).alloc (.cells #[.bool false] 4)) 22 (.slice A0 l0.length c0)
 simp only [World.size_alloc] at bS bK bN
 have hB0 : Below w.heap.size w ((((w.alloc (.cells #[.string a1] 9)).alloc (.cells #[.string ⟨#[]⟩] 9)).alloc (.cells #[.bool false] 4)).alloc (.cells #[.slice A0 l0.length c0] 22)) := ((((Below.refl _ w).alloc (Nat.le_refl _) _).alloc (by simp) _).alloc (by simp; omega) _).alloc (by simp; omega) _
 have hsz : ((((w.alloc (.cells #[.string a1] 9)).alloc (.cells #[.string ⟨#[]⟩] 9)).alloc (.cells #[.bool false] 4)).alloc (.cells #[.slice A0 l0.length c0] 22)).heap.size = w.heap.size + 4 := by simp
 obtain ⟨W0, hW0⟩ : ∃ W0, (((w.alloc (.cells #[.string a1] 9)).alloc (.cells #[.string ⟨#[]⟩] 9)).alloc (.cells #[.bool false] 4)).alloc (.cells #[.slice A0 l0.length c0] 22) = W0 := ⟨_, rfl⟩
 rw [hW0] at bP bS bK bN hB0 hsz ⊢
 clear hW0
 have hC0 := Kd.C_below HR0.out hB0
 refine wpIn_rangeFunc_ownH hro h1 (gf := 33) (lb := #[.pointer (some ⟨w.heap.size + 1 + 1 + 1, 0, none⟩)]) rfl h5 (enters_of Try.func33 (by kernel_rfl) rfl)
  (bw_stops F (n - 1) h5 hro (by omega) (w.heap.size + 1 + 1 + 1) A0 c0 l0 W0 (by omega) bN.cell hC0) belowK_t (belowK_b (by omega)) (Below.refl _ _) (fun _ => rfl)
  (fun pre W => (((((∀ x, x ∈ pre → (x.2.f0.toList == a1.toList) = false) ∧ Boxed W w.heap.size 9 (.string a1)) ∧ Boxed W (w.heap.size + 1) 9 (.string ⟨#[]⟩)) ∧ Boxed W (w.heap.size + 1 + 1) 4 (.bool false)) ∧ Boxed W (w.heap.size + 1 + 1 + 1) 22 (.slice A0 l0.length c0)) ∧ Below w.heap.size w W)
  (fun c pre W => (c = .ret ∧ ∃ ini last, pre = ini ++ [last] ∧ (∀ x, x ∈ ini → (x.2.f0.toList == a1.toList) = false) ∧ (last.2.f0.toList == a1.toList) = true ∧ Boxed W (w.heap.size + 1) 9 (.string last.2.f1) ∧ Boxed W (w.heap.size + 1 + 1) 4 (.bool true)) ∧ Below w.heap.size w W)
  (OwnFrom.and (OwnFrom.and (OwnFrom.and (OwnFrom.and (OwnFrom.and (ownFrom_pure _ _) (Own.from (boxed_own _ _ _) _)) (Own.from (boxed_own _ _ _) _)) (Own.from (boxed_own _ _ _) _)) (Own.from (boxed_own _ _ _) _)) (ownFrom_below (Nat.le_refl _) (by omega)))
  (fun c => OwnFrom.and (Own.from (fun s X Y row hs hg hr => by obtain ⟨h1, ini, last, e1, e2, e3, e4, e5⟩ := hs; exact ⟨h1, ini, last, e1, e2, e3, boxed_own _ _ (fun (_ : Unit) => Value.string last.2.f1) () X Y row e4 hg hr, boxed_own _ _ (fun (_ : Unit) => Value.bool true) () X Y row e5 hg hr⟩) _) (ownFrom_below (Nat.le_refl _) (by omega)))
  ⟨⟨⟨⟨⟨by simp, bP⟩, bS⟩, bK⟩, bN⟩, hB0⟩
  (fun x a' W => ∃ Bx, w.heap.size + 1 + 1 + 1 < Bx ∧ W.heap[Bx]? = some (.cells #[.string x.2.f0, .string x.2.f1] 44 (0, 0)) ∧ a' = { tmps := #[.slice A0 l0.length c0, .string a1, undef, .pointer (some ⟨w.heap.size, 0, none⟩), .pointer (some ⟨w.heap.size + 1, 0, none⟩), .pointer (some ⟨w.heap.size + 1 + 1, 0, none⟩), undef, .pointer (some ⟨Bx, 0, none⟩), .slice A0 l0.length c0, .func (.func 33) #[] #[.pointer (some ⟨w.heap.size + 1 + 1 + 1, 0, none⟩)], .int .i64 x.1, .agg #[.string x.2.f0, .string x.2.f1], undef, undef, undef, undef, undef, undef, undef, undef], defers := [] })
  (fun x a' _ X Y row hs hg hr => by obtain ⟨Bx, e1, e2, e3⟩ := hs; exact ⟨Bx, e1, (hg.block Bx (Array.getElem?_eq_some_iff.1 e2).1 (fun e' => by obtain ⟨_, o, ho, hc⟩ := hr Bx e'.symm; rw [e2] at ho; cases ho; cases hc)).trans e2, e3⟩)
  ?assign ?body ?done ?stop
 case assign =>
  rintro l pre x W K ⟨⟨⟨⟨⟨hp, bP1⟩, bS1⟩, bK1⟩, bN1⟩, hB1⟩ hK
  gi_wp2
  exact hK _ _ ((KeepsOthers.alloc _ _).from _) ((Below.refl _ W).alloc (by have := bN1.lt; omega) _) ⟨⟨⟨⟨⟨hp, bP1.alloc _⟩, bS1.alloc _⟩, bK1.alloc _⟩, bN1.alloc _⟩, hB1.alloc hB1.size _⟩ ⟨W.heap.size, bN1.lt, blk_new W _, rfl⟩
 case body =>
  rintro l pre x a' W hl ⟨r, hr⟩ ⟨⟨⟨⟨⟨hp, bP1⟩, bS1⟩, bK1⟩, bN1⟩, hB1⟩ ⟨Bx, hBx, bX, rfl⟩ hlt
  have cP := bP1.cell
  have cS := bS1.cell
  have fS := bS1.frozen
  have cK := bK1.cell
  have fK := bK1.frozen
  have cX0 : W.cell? ⟨Bx, 0, none⟩ = some (.string x.2.f0) := (blk_cell bX 0).trans rfl
  have cX1 : W.cell? ⟨Bx, 1, none⟩ = some (.string x.2.f1) := (blk_cell bX 1).trans rfl
  cases hx : (x.2.f0.toList == a1.toList) with
  | true =>
   gi_wp2
   exact ⟨((KeepsOthers.setCell _ _ _).trans (KeepsOthers.setCell _ _ _)).from _, ⟨rfl, pre, x, rfl, hp, hx, (bS1.set _).other (by omega) _, (bK1.other (by omega) _).set _⟩, (hB1.setCell (p := ⟨w.heap.size + 1, 0, none⟩) (by simp) _).setCell (p := ⟨w.heap.size + 1 + 1, 0, none⟩) (by simp; omega) _⟩
  | false =>
   gi_wp2
   exact ⟨KeepsFrom.refl _ _, Below.refl _ _, ⟨⟨⟨⟨⟨fun z hz => (List.mem_append.1 hz).elim (hp z) (fun e => by simp at e; subst e; exact hx), bP1⟩, bS1⟩, bK1⟩, bN1⟩, hB1⟩⟩
 case done =>
  rintro D zs W hD rfl ⟨⟨⟨⟨⟨hp, bP1⟩, bS1⟩, bK1⟩, bN1⟩, hB1⟩ hK
  have hf : findR l0 a1 = (⟨#[]⟩, (a1.toList == ([] : List UInt8))) := by
   unfold findR
   rw [fnd_none]
   intro b hb
   rw [← bw_reverse] at hb
   obtain ⟨x, hx, rfl⟩ := List.mem_map.1 hb
   exact hp x hx
  have HF := Aside0.mk hf
  clear hf
  have cP := bP1.cell
  have cS := bS1.cell
  have fS := bS1.frozen
  have cK := bK1.cell
  have fK := bK1.frozen
  have fin : ∀ W2 : World, KeepsOthers W W2 → Boxed W2 (w.heap.size + 1) 9 (.string ⟨#[]⟩) → Boxed W2 (w.heap.size + 1 + 1) 4 (.bool a1.toList.isEmpty) → Below w.heap.size w W2 → ∀ u18 u19,
    bodyPostM F n Try.prog Try.f12 (fun e w' => e = .returned (.tuple #[.string (findR l0 a1).1, .bool (findR l0 a1).2]) ∧ Below w.heap.size w w') Exit.ret
     { tmps := #[.slice A0 l0.length c0, .string a1, undef, .pointer (some ⟨w.heap.size, 0, none⟩), .pointer (some ⟨w.heap.size + 1, 0, none⟩), .pointer (some ⟨w.heap.size + 1 + 1, 0, none⟩), undef, undef, .slice A0 l0.length c0, .func (.func 33) #[] #[.pointer (some ⟨w.heap.size + 1 + 1 + 1, 0, none⟩)], undef, undef, undef, undef, undef, undef, undef, undef, u18, u19], defers := [{ target := .collected D, args := #[] }] } W2 := by
   intro W2 hko b1 b2 hbel u18 u19
   have hK' := hko.same D _ hK rfl
   refine ⟨by simp, .inl ⟨_, _, rfl, run_takeDeferred hK', ?_⟩⟩
   have hc4 := cell_kept b1.cell (grownBy_putObj' _ D (.deferred none)) (fun r e => by cases e; exact ⟨_, hK', rfl⟩)
   have hc5 := cell_kept b2.cell (grownBy_putObj' _ D (.deferred none)) (fun r e => by cases e; exact ⟨_, hK', rfl⟩)
   refine ⟨.tuple #[.string ⟨#[]⟩, .bool a1.toList.isEmpty], ?_, by rw [HF.out]; cases a1.toList <;> rfl, hbel.trans (belowK_b (w := w) (Nat.le_refl _) W2 D _ _ (by omega) hK' rfl rfl)⟩
   simp [results, Try.f12, go_sem, hc4, hc5]
  gi_wp2
  gi_region
  all_goals gi_wp2
  all_goals exact fin _ (by first | exact ((KeepsOthers.setCell _ _ _).trans (KeepsOthers.setCell _ _ _)).trans (KeepsOthers.drew _)) (by first | exact (bS1.set _).other (by omega) _ | exact (bS1.other (by omega) _).set _) (by first | exact (bK1.other (by omega) _).set _ | exact (bK1.set _).other (by omega) _) (by first | exact ((hB1.setCell (p := ⟨w.heap.size + 1, 0, none⟩) (by simp) _).setCell (p := ⟨w.heap.size + 1 + 1, 0, none⟩) (by simp; omega) _).drew | exact ((hB1.setCell (p := ⟨w.heap.size + 1 + 1, 0, none⟩) (by simp; omega) _).setCell (p := ⟨w.heap.size + 1, 0, none⟩) (by simp) _).drew) _ _
 case stop =>
  rintro D c pre W hD ⟨k, hk, rfl⟩ ⟨⟨rfl, ini, last, e1, e2, e3, bS1, bK1⟩, hB1⟩ hK
  have hf : findR l0 a1 = (last.2.f1, true) := by
   unfold findR
   obtain ⟨t, ht⟩ := upto_prefix (bwx l0) hk
   rw [← bw_reverse, ← ht, e1, List.map_append, List.map_append, List.map_cons, List.map_nil, List.append_assoc, List.singleton_append, fnd_some e3]
   intro b hb
   obtain ⟨x, hx, rfl⟩ := List.mem_map.1 hb
   exact e2 x hx
  have HF := Aside0.mk hf
  clear hf
  gi_wp2
  refine ⟨by simp, .inl ⟨_, _, rfl, run_takeDeferred hK, ?_⟩⟩
  have hc4 := cell_kept bS1.cell (grownBy_putObj' _ D (.deferred none)) (fun r e => by cases e; exact ⟨_, hK, rfl⟩)
  have hc5 := cell_kept bK1.cell (grownBy_putObj' _ D (.deferred none)) (fun r e => by cases e; exact ⟨_, hK, rfl⟩)
  refine ⟨.tuple #[.string last.2.f1, .bool true], ?_, by rw [HF.out], hB1.trans (belowK_b (w := w) (Nat.le_refl _) W D _ _ (by omega) hK rfl rfl)⟩
  simp [results, Try.f12, go_sem, hc4, hc5]
end
theorem scope_Find.calls (A0 : Option Addr) (c0 : Nat) (l0 : List S44) (a1 : ByteArray) (r1 : ByteArray) (r2 : Bool) (w : World) (hr0 : Kd.C k44 w A0 l0.length l0) (hc0 : l0.length ≤ c0) (h : scope_Find.f l0 a1 = some (r1, r2)) :
  Calls Try.prog 12 #[.slice A0 l0.length c0, .string a1] w fun e w' => e = .returned (.tuple #[.string r1, .bool r2]) ∧ Below w.heap.size w w' := by
 have h2 := Option.some.inj h
 refine ((callsIn_wide (n := 6)).1 (find_in A0 c0 l0 a1 w hr0 Fence.wide 6 trivial trivial trivial rfl (Nat.le_refl _))).mono ?_
 rintro e w' ⟨rfl, hb⟩
 exact ⟨by rw [h2], hb⟩


/-! ### scope_resolve: function 25 -/
def scope_resolve.j0 : Nat → List (S44) → Bool → ByteArray → ByteArray → Bool → Option (ByteArray × ByteArray × Bool)
 | 0, _, _, _, _, _ => none
 | k + 1, x0, x2, x8, x9, x23 => if x23 = true then (some ((⟨#[]⟩ : ByteArray), (⟨#[]⟩ : ByteArray), false)) else (if x2 = true then (if x8.toList = ([] : List UInt8) then (some ((⟨#[]⟩ : ByteArray), x9, true)) else ((scope_Find.f x0 x8).bind fun bt126 => (some (bt126.1, x9, bt126.2)))) else ((scope_Find.f x0 x8).bind fun bt128 => (some (bt128.1, x9, bt128.2))))
def scope_resolve.f (k : Nat) (l0 : List (S44)) (a1 : ByteArray) (a2 : Bool) : Option (ByteArray × ByteArray × Bool) := (name_Split.f k a1).bind fun bt123 => (if bt123.2.2 = true then (scope_resolve.j0 k l0 a2 bt123.1 bt123.2.1 (bt123.1.toList == ([120, 109, 108, 110, 115] : List UInt8))) else (scope_resolve.j0 k l0 a2 bt123.1 bt123.2.1 true))
theorem scope_resolve.mono_l : ∀ k, (∀ y0 y1 y2 y3 y4, LeO (scope_resolve.j0 k y0 y1 y2 y3 y4) (scope_resolve.j0 (k + 1) y0 y1 y2 y3 y4))
 | 0 => fun _ _ _ _ _ r h => by simp [scope_resolve.j0] at h
 | k + 1 => by
  have ih0 := scope_resolve.mono_l k
  ·
   intro y0 y1 y2 y3 y4
   unfold scope_resolve.j0
   repeat' first
   | (with_reducible exact ih0 _ _ _ _ _)
   | (with_reducible exact name_Split.mono _ _)
   | (with_reducible exact LeO.refl _)
   | (with_reducible exact LeO.none _)
   | (with_reducible refine LeO.ite ?_ ?_)
   | (with_reducible refine LeO.bind ?_ (fun _ => ?_))
   | exact ih0 _ _ _ _ _
   | exact name_Split.mono _ _
   | exact LeO.none _
   | refine LeO.ite ?_ ?_
   | refine LeO.bind ?_ (fun _ => ?_)
theorem scope_resolve.mono : ∀ a0 a1 a2 k, LeO (scope_resolve.f k a0 a1 a2) (scope_resolve.f (k + 1) a0 a1 a2) := by
 intro a0 a1 a2 k
 have ih0 := scope_resolve.mono_l k
 unfold scope_resolve.f
 repeat' first
   | (with_reducible exact ih0 _ _ _ _ _)
   | (with_reducible exact name_Split.mono _ _)
   | (with_reducible exact LeO.refl _)
   | (with_reducible exact LeO.none _)
   | (with_reducible refine LeO.ite ?_ ?_)
   | (with_reducible refine LeO.bind ?_ (fun _ => ?_))
   | exact ih0 _ _ _ _ _
   | exact name_Split.mono _ _
   | exact LeO.none _
   | refine LeO.ite ?_ ?_
   | refine LeO.bind ?_ (fun _ => ?_)
set_option maxHeartbeats 8000000 in
set_option maxRecDepth 100000 in
theorem scope_resolve.calls (k : Nat) (A0 : Option Addr) (c0 : Nat) (l0 : List (S44)) (a1 : ByteArray) (a2 : Bool) (r1 : ByteArray) (r2 : ByteArray) (r3 : Bool) (w : World) (hr0 : Kd.C k44 w A0 l0.length l0) (hc0 : l0.length ≤ c0) (h : scope_resolve.f k l0 a1 a2 = some (r1, r2, r3)) :
  Calls Try.prog 25 #[.slice A0 l0.length c0, .string a1, .bool a2] w fun e w' => e = .returned (.tuple #[.agg #[.string r1, .string r2], .bool r3]) ∧ Below w.heap.size w w' := by
 have hu29 := Try.underlying29
 have HR0 := Aside0.mk hr0
 have HC0 := Aside0.mk hc0
 clear hr0 hc0
 have HB := Aside0.mk (Below.refl w.heap.size w)
 have H : ((name_Split.f k a1).bind fun bt123 => (if bt123.2.2 = true then (scope_resolve.j0 k l0 a2 bt123.1 bt123.2.1 (bt123.1.toList == ([120, 109, 108, 110, 115] : List UInt8))) else (scope_resolve.j0 k l0 a2 bt123.1 bt123.2.1 true))) = some (r1, r2, r3) := h
 clear h
 replace H := Option.bind_eq_some_iff.mp H
 obtain ⟨⟨t123, t124, t125⟩, A40, H⟩ := H
 replace H : (if t125 = true then (scope_resolve.j0 k l0 a2 t123 t124 (t123.toList == ([120, 109, 108, 110, 115] : List UInt8))) else (scope_resolve.j0 k l0 a2 t123 t124 true)) = some (r1, r2, r3) := H
 have A4 := Aside0.mk A40
 clear A40
 have HC5 := Aside0.mk H
 clear H
 go_enter Try.func25, Try.ntmps25
 go_upto_region 2 with (first | ((with_reducible refine gate_dst (N := 6) rfl ?_); refine box_event ?hg (N := 6) ?hd (cs := #[.string (⟨#[]⟩ : ByteArray), .string (⟨#[]⟩ : ByteArray)]) (t := 29) ?hr ?_; (case hd => rfl); (case hg => rfl); (case hr => first | (go_simp; done) | (go_simp; rfl)); intro gb122 hg w6 hbox hb; have n0_ := Aside0.mk (below_step (by repeat (first | (with_reducible first | exact HB.out | apply below_alloc | apply pw_below_drewN | apply below_drew1) | exact HB.out)) hb); have n1_ := Aside0.mk (hbox); have n2_ := Aside0.mk ((by rw [hg]; exact (below_size (by repeat (first | (with_reducible first | exact HB.out | apply below_alloc | apply pw_below_drewN | apply below_drew1) | exact HB.out))) : w.heap.size ≤ gb122)); have n3_ := Aside0.mk ((by rw [hg]; exact (below_size (by repeat (first | (with_reducible first | exact HB.out | apply below_alloc | apply pw_below_drewN | apply below_drew1) | exact HB.out))) : w.heap.size ≤ gb122)); clear HB; have HB := n0_; have BK122 := n1_; have GW122 := n2_; have GE122 := n3_; clear n0_ n1_ n2_ n3_; clear hb hbox hg) | ((with_reducible refine gate_callee (f := 31) rfl ?_); refine goesL_ (some 14) rfl rfl Try.func31 (by kernel_rfl) rfl #[.string a1] rfl (by (try simp only [List.map_toArray, List.map_cons, List.map_nil]); first | done | rfl | (simp only [List.length_drop, List.length_take]; rfl)) ?_; (with_reducible refine (name_Split.calls k a1 t123 t124 t125 _ A4.out).mono ?_); rintro e w7 ⟨rfl, hb⟩; refine ⟨_, rfl, ?_⟩; have n0_ := Aside0.mk (blk_below (g := gb122) (o := .cells #[.string (⟨#[]⟩ : ByteArray), .string (⟨#[]⟩ : ByteArray)] 29 (0, 0)) (by (with_reducible repeat (first | refine blk_drewN ?_ _ | refine blk_drew ?_ | refine blk_alloc ?_ _)); exact BK122.out) hb); have n1_ := Aside0.mk (below_step (by repeat (first | (with_reducible first | exact HB.out | apply below_alloc | apply pw_below_drewN | apply below_drew1 | refine below_set ?_ GE122.out) | exact HB.out)) hb); clear BK122; clear HB; have BK122 := n0_; have HB := n1_; clear n0_ n1_; (try clear hb); (try clear hb2); (try clear hk); (try clear hi)))
 (try simp only [Act.put, List.setIfInBounds_toArray, List.set_cons_zero, List.set_cons_succ])
 go_cut [23] (fun v23 wc => ∃ (kq : Nat) (x23_4 : Bool), v23 = .bool x23_4 ∧ Aside0 (scope_resolve.j0 kq l0 a2 t123 t124 x23_4 = some (r1, r2, r3)) ∧ Aside0 (kq ≤ k) ∧ Aside0 (wc.heap[gb122]? = some (.cells #[.string (⟨#[]⟩ : ByteArray), .string (⟨#[]⟩ : ByteArray)] 29 (0, 0))) ∧ Aside0 (Below w.heap.size w wc))
 case first =>
  have H := HC5.out
  clear HC5
  by_cases c8 : t125 = true
  ·
   subst c8
   have H1 : (scope_resolve.j0 k l0 a2 t123 t124 (t123.toList == ([120, 109, 108, 110, 115] : List UInt8))) = some (r1, r2, r3) := by rw [if_pos rfl] at H; exact H
   clear H
   have H := H1
   clear H1
   have H' := Aside0.mk H
   clear H
   go_wp2
   go_meet
   case rel => exact ⟨_, ((t123.toList == ([120, 109, 108, 110, 115] : List UInt8))), (by first | rfl | (simp; done) | (simp [*]; done)), H', ⟨by first | omega | exact Nat.le_refl _⟩, ⟨by (with_reducible repeat (first | refine blk_drewN ?_ _ | refine blk_drew ?_ | refine blk_alloc ?_ _)); exact BK122.out⟩, ⟨by repeat (first | (with_reducible first | exact HB.out | apply below_alloc | apply pw_below_drewN | apply below_drew1 | refine below_set ?_ GE122.out) | exact HB.out)⟩⟩
  ·
   replace c8 := Bool.eq_false_iff.mpr c8
   subst c8
   have H1 : (scope_resolve.j0 k l0 a2 t123 t124 true) = some (r1, r2, r3) := by rw [if_neg (show ¬ (false = true) by decide)] at H; exact H
   clear H
   have H := H1
   clear H1
   have H' := Aside0.mk H
   clear H
   go_wp2
   go_meet
   case rel => exact ⟨_, (true), (by first | rfl | (simp; done) | (simp [*]; done)), H', ⟨by first | omega | exact Nat.le_refl _⟩, ⟨by (with_reducible repeat (first | refine blk_drewN ?_ _ | refine blk_drew ?_ | refine blk_alloc ?_ _)); exact BK122.out⟩, ⟨by repeat (first | (with_reducible first | exact HB.out | apply below_alloc | apply pw_below_drewN | apply below_drew1 | refine below_set ?_ GE122.out) | exact HB.out)⟩⟩
 case rest =>
  clear HC5
  try clear c2
  try clear p2
  try clear c3
  try clear c8
  obtain ⟨kq, x23_4, rfl, HA, HJ4, BK122, HB⟩ := hcut
  cases kq with
  | zero => exact absurd HA.out (by simp [scope_resolve.j0])
  | succ kj4 =>
   have H := HA.out
   clear HA
   simp only [scope_resolve.j0] at H
   by_cases c9 : x23_4 = true
   ·
    subst c9
    have H1 : (some ((⟨#[]⟩ : ByteArray), (⟨#[]⟩ : ByteArray), false)) = some (r1, r2, r3) := by rw [if_pos rfl] at H; exact H
    clear H
    have H := H1
    clear H1
    simp only [Option.some.injEq, Prod.mk.injEq] at H
    obtain ⟨rfl, rfl, rfl⟩ := H
    have hcz10_0 : wc.cell? ⟨gb122, 0, none⟩ = some (.string (⟨#[]⟩ : ByteArray)) := (blk_cell BK122.out 0).trans rfl
    have hcz10_1 : wc.cell? ⟨gb122, 1, none⟩ = some (.string (⟨#[]⟩ : ByteArray)) := (blk_cell BK122.out 1).trans rfl
    have hfz10_0 := blk_frozen BK122.out 0
    have hfz10_1 := blk_frozen BK122.out 1
    go_wp2
    refine bodyPost_ret (results_ct rfl _ _ gb122 29 #[.string (⟨#[]⟩ : ByteArray), .string (⟨#[]⟩ : ByteArray)] (0, 0) _ rfl (by (with_reducible repeat (first | refine blk_drewN ?_ _ | refine blk_drew ?_ | refine blk_alloc ?_ _)); refine blk_put (cs := #[.string (⟨#[]⟩ : ByteArray), .string (⟨#[]⟩ : ByteArray)]) ?_ 1 _ rfl; (with_reducible repeat (first | refine blk_drewN ?_ _ | refine blk_drew ?_ | refine blk_alloc ?_ _)); refine blk_put (cs := #[.string (⟨#[]⟩ : ByteArray), .string (⟨#[]⟩ : ByteArray)]) ?_ 0 _ rfl; (with_reducible repeat (first | refine blk_drewN ?_ _ | refine blk_drew ?_ | refine blk_alloc ?_ _)); exact BK122.out) Try.underlying29 rfl (by kernel_rfl)) rfl ?_
    exact ⟨by first | rfl | exact congrArg (fun b => Ending.returned (Value.bool b)) (isE_ne _).symm | exact congrArg (fun b => Ending.returned (Value.bool b)) (isE_eq _).symm | (simp only [isE_ne, isE_eq, Bool.not_not]; done) | (simp [errW_none, errW_some] <;> rfl) | (simp [*, errW_none, errW_some] <;> rfl), by repeat (first | (with_reducible first | exact HB.out | apply below_alloc | apply pw_below_drewN | apply below_drew1 | refine below_set ?_ GE122.out) | exact HB.out)⟩
   ·
    replace c9 := Bool.eq_false_iff.mpr c9
    subst c9
    have H1 : (if a2 = true then (if t123.toList = ([] : List UInt8) then (some ((⟨#[]⟩ : ByteArray), t124, true)) else ((scope_Find.f l0 t123).bind fun bt126 => (some (bt126.1, t124, bt126.2)))) else ((scope_Find.f l0 t123).bind fun bt128 => (some (bt128.1, t124, bt128.2)))) = some (r1, r2, r3) := by rw [if_neg (show ¬ (false = true) by decide)] at H; exact H
    clear H
    have H := H1
    clear H1
    by_cases c11 : a2 = true
    ·
     subst c11
     have H1 : (if t123.toList = ([] : List UInt8) then (some ((⟨#[]⟩ : ByteArray), t124, true)) else ((scope_Find.f l0 t123).bind fun bt126 => (some (bt126.1, t124, bt126.2)))) = some (r1, r2, r3) := by rw [if_pos rfl] at H; exact H
     clear H
     have H := H1
     clear H1
     by_cases c12 : t123.toList = ([] : List UInt8)
     ·
      rw [if_pos c12] at H
      have c12b0 : (t123.toList == ([] : List UInt8)) = true := beq_iff_eq.mpr c12
      have c12b1 : (t123.toList != ([] : List UInt8)) = false := bne_eq_false_iff_eq.mpr c12
      clear c12
      simp only [Option.some.injEq, Prod.mk.injEq] at H
      obtain ⟨rfl, rfl, rfl⟩ := H
      have hcz13_0 : wc.cell? ⟨gb122, 0, none⟩ = some (.string (⟨#[]⟩ : ByteArray)) := (blk_cell BK122.out 0).trans rfl
      have hcz13_1 : wc.cell? ⟨gb122, 1, none⟩ = some (.string (⟨#[]⟩ : ByteArray)) := (blk_cell BK122.out 1).trans rfl
      have hfz13_0 := blk_frozen BK122.out 0
      have hfz13_1 := blk_frozen BK122.out 1
      go_wp2
      refine bodyPost_ret (results_ct rfl _ _ gb122 29 #[.string (⟨#[]⟩ : ByteArray), .string t124] (0, 0) _ rfl (by (with_reducible repeat (first | refine blk_drewN ?_ _ | refine blk_drew ?_ | refine blk_alloc ?_ _)); refine blk_put (cs := #[.string (⟨#[]⟩ : ByteArray), .string (⟨#[]⟩ : ByteArray)]) ?_ 1 _ rfl; (with_reducible repeat (first | refine blk_drewN ?_ _ | refine blk_drew ?_ | refine blk_alloc ?_ _)); refine blk_put (cs := #[.string (⟨#[]⟩ : ByteArray), .string (⟨#[]⟩ : ByteArray)]) ?_ 0 _ rfl; (with_reducible repeat (first | refine blk_drewN ?_ _ | refine blk_drew ?_ | refine blk_alloc ?_ _)); exact BK122.out) Try.underlying29 rfl (by kernel_rfl)) rfl ?_
      exact ⟨by first | rfl | exact congrArg (fun b => Ending.returned (Value.bool b)) (isE_ne _).symm | exact congrArg (fun b => Ending.returned (Value.bool b)) (isE_eq _).symm | (simp only [isE_ne, isE_eq, Bool.not_not]; done) | (simp [errW_none, errW_some] <;> rfl) | (simp [*, errW_none, errW_some] <;> rfl), by repeat (first | (with_reducible first | exact HB.out | apply below_alloc | apply pw_below_drewN | apply below_drew1 | refine below_set ?_ GE122.out) | exact HB.out)⟩
     ·
      rw [if_neg c12] at H
      have c12b0 : (t123.toList == ([] : List UInt8)) = false := beq_eq_false_iff_ne.mpr c12
      have c12b1 : (t123.toList != ([] : List UInt8)) = true := bne_iff_ne.mpr c12
      replace H := Option.bind_eq_some_iff.mp H
      obtain ⟨⟨t126, t127⟩, A140, H⟩ := H
      replace H : (some (t126, t124, t127)) = some (r1, r2, r3) := H
      have A14 := Aside0.mk A140
      clear A140
      simp only [Option.some.injEq, Prod.mk.injEq] at H
      obtain ⟨rfl, rfl, rfl⟩ := H
      go_wp2_with (first | ((with_reducible refine gate_callee (f := 12) rfl ?_); refine goesL_ (some 35) rfl rfl Try.func12 (by kernel_rfl) rfl #[.slice A0 l0.length c0, .string t123] rfl (by (try simp only [List.map_toArray, List.map_cons, List.map_nil]); first | done | rfl | (simp only [List.length_drop, List.length_take]; rfl)) ?_; (with_reducible refine (scope_Find.calls _ _ l0 t123 t126 t127 _ ?side1 ?side2 A14.out).mono ?_); (case side1 => repeat (first | exact (Kd.C_below HR0.out HB.out) | (with_reducible refine Kd.C_alloc ?_ _) | (with_reducible refine Kd.C_drewN ?_ _) | (with_reducible refine Kd.C_drew ?_))); (case side2 => exact HC0.out); rintro e w15 ⟨rfl, hb⟩; refine ⟨_, rfl, ?_⟩; have n0_ := Aside0.mk (blk_below (g := gb122) (o := .cells #[.string (⟨#[]⟩ : ByteArray), .string (⟨#[]⟩ : ByteArray)] 29 (0, 0)) (by (with_reducible repeat (first | refine blk_drewN ?_ _ | refine blk_drew ?_ | refine blk_alloc ?_ _)); exact BK122.out) hb); have n1_ := Aside0.mk (below_step (by repeat (first | (with_reducible first | exact HB.out | apply below_alloc | apply pw_below_drewN | apply below_drew1 | refine below_set ?_ GE122.out) | exact HB.out)) hb); clear BK122; clear HB; have BK122 := n0_; have HB := n1_; clear n0_ n1_; (try clear hb); (try clear hb2); (try clear hk); (try clear hi); have hcz16_0 : w15.cell? ⟨gb122, 0, none⟩ = some (.string (⟨#[]⟩ : ByteArray)) := (blk_cell BK122.out 0).trans rfl; have hcz16_1 : w15.cell? ⟨gb122, 1, none⟩ = some (.string (⟨#[]⟩ : ByteArray)) := (blk_cell BK122.out 1).trans rfl; have hfz16_0 := blk_frozen BK122.out 0; have hfz16_1 := blk_frozen BK122.out 1))
      refine bodyPost_ret (results_ct rfl _ _ gb122 29 #[.string t126, .string t124] (0, 0) _ rfl (by (with_reducible repeat (first | refine blk_drewN ?_ _ | refine blk_drew ?_ | refine blk_alloc ?_ _)); refine blk_put (cs := #[.string t126, .string (⟨#[]⟩ : ByteArray)]) ?_ 1 _ rfl; (with_reducible repeat (first | refine blk_drewN ?_ _ | refine blk_drew ?_ | refine blk_alloc ?_ _)); refine blk_put (cs := #[.string (⟨#[]⟩ : ByteArray), .string (⟨#[]⟩ : ByteArray)]) ?_ 0 _ rfl; (with_reducible repeat (first | refine blk_drewN ?_ _ | refine blk_drew ?_ | refine blk_alloc ?_ _)); exact BK122.out) Try.underlying29 rfl (by kernel_rfl)) rfl ?_
      exact ⟨by first | rfl | exact congrArg (fun b => Ending.returned (Value.bool b)) (isE_ne _).symm | exact congrArg (fun b => Ending.returned (Value.bool b)) (isE_eq _).symm | (simp only [isE_ne, isE_eq, Bool.not_not]; done) | (simp [errW_none, errW_some] <;> rfl) | (simp [*, errW_none, errW_some] <;> rfl), by repeat (first | (with_reducible first | exact HB.out | apply below_alloc | apply pw_below_drewN | apply below_drew1 | refine below_set ?_ GE122.out) | exact HB.out)⟩
    ·
     replace c11 := Bool.eq_false_iff.mpr c11
     subst c11
     have H1 : ((scope_Find.f l0 t123).bind fun bt128 => (some (bt128.1, t124, bt128.2))) = some (r1, r2, r3) := by rw [if_neg (show ¬ (false = true) by decide)] at H; exact H
     clear H
     have H := H1
     clear H1
     replace H := Option.bind_eq_some_iff.mp H
     obtain ⟨⟨t128, t129⟩, A170, H⟩ := H
     replace H : (some (t128, t124, t129)) = some (r1, r2, r3) := H
     have A17 := Aside0.mk A170
     clear A170
     simp only [Option.some.injEq, Prod.mk.injEq] at H
     obtain ⟨rfl, rfl, rfl⟩ := H
     go_wp2_with (first | ((with_reducible refine gate_callee (f := 12) rfl ?_); refine goesL_ (some 35) rfl rfl Try.func12 (by kernel_rfl) rfl #[.slice A0 l0.length c0, .string t123] rfl (by (try simp only [List.map_toArray, List.map_cons, List.map_nil]); first | done | rfl | (simp only [List.length_drop, List.length_take]; rfl)) ?_; (with_reducible refine (scope_Find.calls _ _ l0 t123 t128 t129 _ ?side1 ?side2 A17.out).mono ?_); (case side1 => repeat (first | exact (Kd.C_below HR0.out HB.out) | (with_reducible refine Kd.C_alloc ?_ _) | (with_reducible refine Kd.C_drewN ?_ _) | (with_reducible refine Kd.C_drew ?_))); (case side2 => exact HC0.out); rintro e w18 ⟨rfl, hb⟩; refine ⟨_, rfl, ?_⟩; have n0_ := Aside0.mk (blk_below (g := gb122) (o := .cells #[.string (⟨#[]⟩ : ByteArray), .string (⟨#[]⟩ : ByteArray)] 29 (0, 0)) (by (with_reducible repeat (first | refine blk_drewN ?_ _ | refine blk_drew ?_ | refine blk_alloc ?_ _)); exact BK122.out) hb); have n1_ := Aside0.mk (below_step (by repeat (first | (with_reducible first | exact HB.out | apply below_alloc | apply pw_below_drewN | apply below_drew1 | refine below_set ?_ GE122.out) | exact HB.out)) hb); clear BK122; clear HB; have BK122 := n0_; have HB := n1_; clear n0_ n1_; (try clear hb); (try clear hb2); (try clear hk); (try clear hi); have hcz19_0 : w18.cell? ⟨gb122, 0, none⟩ = some (.string (⟨#[]⟩ : ByteArray)) := (blk_cell BK122.out 0).trans rfl; have hcz19_1 : w18.cell? ⟨gb122, 1, none⟩ = some (.string (⟨#[]⟩ : ByteArray)) := (blk_cell BK122.out 1).trans rfl; have hfz19_0 := blk_frozen BK122.out 0; have hfz19_1 := blk_frozen BK122.out 1))
     refine bodyPost_ret (results_ct rfl _ _ gb122 29 #[.string t128, .string t124] (0, 0) _ rfl (by (with_reducible repeat (first | refine blk_drewN ?_ _ | refine blk_drew ?_ | refine blk_alloc ?_ _)); refine blk_put (cs := #[.string t128, .string (⟨#[]⟩ : ByteArray)]) ?_ 1 _ rfl; (with_reducible repeat (first | refine blk_drewN ?_ _ | refine blk_drew ?_ | refine blk_alloc ?_ _)); refine blk_put (cs := #[.string (⟨#[]⟩ : ByteArray), .string (⟨#[]⟩ : ByteArray)]) ?_ 0 _ rfl; (with_reducible repeat (first | refine blk_drewN ?_ _ | refine blk_drew ?_ | refine blk_alloc ?_ _)); exact BK122.out) Try.underlying29 rfl (by kernel_rfl)) rfl ?_
     exact ⟨by first | rfl | exact congrArg (fun b => Ending.returned (Value.bool b)) (isE_ne _).symm | exact congrArg (fun b => Ending.returned (Value.bool b)) (isE_eq _).symm | (simp only [isE_ne, isE_eq, Bool.not_not]; done) | (simp [errW_none, errW_some] <;> rfl) | (simp [*, errW_none, errW_some] <;> rfl), by repeat (first | (with_reducible first | exact HB.out | apply below_alloc | apply pw_below_drewN | apply below_drew1 | refine below_set ?_ GE122.out) | exact HB.out)⟩

-- NOT PRINTED: function 32 (api_Attr_32)

-- NOT PRINTED: function 26 (api_Attr_26)

/-! ### cf_Enter1: function 93001 -/
def cfE1 (n0 n1 : ByteArray) (x : S47) : Bool := x.f0.f0.toList == n0.toList && (x.f0.f1.toList == n1.toList)
def cf_Enter1.f (l0 : List S47) (n0 n1 : ByteArray) : Option Bool := some (l0.any (cfE1 n0 n1))
theorem cfE1_eq (d : Nat) (w : World) (x0 y0 : ByteArray) (x1 y1 : ByteArray) :
  (Op.equalIn (d + 2) 29 (.agg #[.string x0, .string x1]) (.agg #[.string y0, .string y1])).run Try.prog w = .ok (x0.toList == y0.toList && (x1.toList == y1.toList)) w := by
 refine eqA_of Try.underlying29 (by kernel_rfl) ?_
 refine eqf_cons (by rfl) (by go_simp; rfl) (by go_simp; rfl) (by go_simp) ?_
 exact eqf_last (by rfl) (by go_simp; rfl) (by go_simp; rfl) (by go_simp)
section
attribute [local go_sem high] cfE1_eq
set_option maxHeartbeats 8000000 in
set_option maxRecDepth 100000 in
theorem cfE1_calls (x0 x1 x2 n0 n1 : ByteArray) (gb : Nat) (w : World) (hb : w.heap[gb]? = some (.cells #[.string n0, .string n1] 29 (0, 0))) :
  Calls Try.prog 27 #[.agg #[.string x0, .string x1, .string x2], .pointer (some ⟨gb, 0, none⟩)] w fun e w' => e = .returned (.bool (x0.toList == n0.toList && (x1.toList == n1.toList))) ∧ Below w.heap.size w w' := by
 have c0 : w.cell? ⟨gb, 0, none⟩ = some (.string n0) := (blk_cell hb 0).trans rfl
 have c1 : w.cell? ⟨gb, 1, none⟩ = some (.string n1) := (blk_cell hb 1).trans rfl
 have hlt : gb < w.heap.size := (Array.getElem?_eq_some_iff.1 hb).1
 have hu := Try.underlying47
 have hu2 := Try.underlying29
 go_enter Try.func27, Try.ntmps27
 go_wp2
 go_ret
 exact ⟨rfl, (Below.refl _ _).alloc (Nat.le_refl _) _⟩
set_option maxHeartbeats 8000000 in
set_option maxRecDepth 100000 in
theorem ifE1_calls (A0 : Option Addr) (c0 : Nat) (l0 : List S47) (n0 n1 : ByteArray) (gb : Nat) (w : World) (hr0 : Kd.C k47 w A0 l0.length l0) (hb : w.heap[gb]? = some (.cells #[.string n0, .string n1] 29 (0, 0))) :
  Calls Try.prog 32 #[.slice A0 l0.length c0, .func (.func 27) #[] #[.pointer (some ⟨gb, 0, none⟩)]] w fun e w' => e = .returned (.int .i64 (idxF (cfE1 n0 n1) l0)) ∧ Below w.heap.size w w' := by
 have hlen := hr0.2.1
 have hglt : gb < w.heap.size := (Array.getElem?_eq_some_iff.1 hb).1
 have HR0 := Aside0.mk hr0
 have HBX := Aside0.mk hb
 clear hr0 hb
 go_enter Try.func32, Try.ntmps32
 go_wp2
 go_loopw [8] (fun i wr => ∃ k : Nat, k ≤ l0.length ∧ i = .int .i64 k ∧ Aside0 (∀ j, j < k → cfE1 n0 n1 (l0.getD j z47) = false) ∧ Aside0 (Below w.heap.size w wr)) (fun i _ => l0.length - (intOf i).toNat)
 case atStart => exact ⟨0, Nat.zero_le _, rfl, ⟨fun j hj => absurd hj (Nat.not_lt_zero _)⟩, ⟨Below.refl _ _⟩⟩
 case round =>
  obtain ⟨k, hk, rfl, HF, HB⟩ := hrel
  by_cases hlt : k < l0.length
  ·
   obtain ⟨ad, hA, h1, h2, h3⟩ := at_T47 (Kd.C_below HR0.out HB.out) (k : Int) (by omega) (by omega)
   subst hA
   rw [show (k : Int).toNat = k from rfl] at h1 h2 h3
   have hbx : wr.heap[gb]? = some (.cells #[.string n0, .string n1] 29 (0, 0)) := (HB.out.block gb hglt).trans HBX.out
   have HX := Aside0.mk hbx
   clear hbx
   have hp := fun W h => cfE1_calls (rd_T47 l0 k).f0.f0 (rd_T47 l0 k).f0.f1 (rd_T47 l0 k).f1 n0 n1 gb W h
   have HP := Aside0.mk hp
   clear hp
   obtain ⟨b, hbq⟩ : ∃ b, ((rd_T47 l0 k).f0.f0.toList == n0.toList && ((rd_T47 l0 k).f0.f1.toList == n1.toList)) = b := ⟨_, rfl⟩
   have HQ := Aside0.mk hbq
   clear hbq
   cases b with
   | true =>
    go_wp2_with (go_at_call 27; refine (HP.out _ HX.out).mono ?_; rw [HQ.out]; rintro e w4 ⟨rfl, hb4⟩; have HB4 := Aside0.mk (HB.out.trans (hb4.mono HB.out.size)); clear hb4)
    go_ret
    exact ⟨congrArg (fun i => Ending.returned (.int .i64 i)) (idxF_some (p := cfE1 n0 n1) z47 hlt HF.out HQ.out).symm, HB4.out⟩
   | false =>
    go_wp2_with (go_at_call 27; refine (HP.out _ HX.out).mono ?_; rw [HQ.out]; rintro e w4 ⟨rfl, hb4⟩; have HB4 := Aside0.mk (HB.out.trans (hb4.mono HB.out.size)); clear hb4)
    go_roundw
    case rel => exact ⟨k + 1, by omega, by go_num, ⟨fun j hj => by
     by_cases h : j < k
     ·
      exact HF.out j h
     ·
      obtain rfl : j = k := by omega
      exact HQ.out⟩, HB4⟩
    case measure => simp [intOf]; omega
  ·
   obtain rfl : k = l0.length := by omega
   go_wp2
   go_ret
   exact ⟨congrArg (fun i => Ending.returned (.int .i64 i)) (idxF_none (p := cfE1 n0 n1) (fun x hx => by
    obtain ⟨j, hj, rfl⟩ := List.mem_iff_getElem.1 hx
    have := HF.out j hj
    rwa [List.getD_eq_getElem?_getD, List.getElem?_eq_getElem hj] at this)).symm, HB.out⟩
set_option maxHeartbeats 8000000 in
set_option maxRecDepth 100000 in
theorem cf_Enter1.calls (A0 : Option Addr) (c0 : Nat) (l0 : List S47) (n0 n1 : ByteArray) (r : Bool) (w : World) (hr0 : Kd.C k47 w A0 l0.length l0) (hc0 : l0.length ≤ c0) (h : cf_Enter1.f l0 n0 n1 = some r) {gb : Nat} (hb : w.heap[gb]? = some (.cells #[.string n0, .string n1] 29 (0, 0))) :
  Calls Try.prog 26 #[.slice A0 l0.length c0, .func (.func 27) #[] #[.pointer (some ⟨gb, 0, none⟩)]] w fun e w' => e = .returned (.bool r) ∧ Below w.heap.size w w' := by
 have h2 := (Option.some.inj h)
 have HI := Aside0.mk (ifE1_calls A0 c0 l0 n0 n1 gb w hr0 hb)
 rw [← idxF_any] at h2
 clear h hr0 hb hc0
 obtain ⟨i, hi⟩ : ∃ i, idxF (cfE1 n0 n1) l0 = i := ⟨_, rfl⟩
 rw [hi] at h2 HI
 clear hi
 subst h2
 go_enter Try.func26, Try.ntmps26
 go_wp2_with (go_at_call 32; refine HI.out.mono ?_; rintro e w4 ⟨rfl, hb4⟩)
 go_ret
 exact ⟨rfl, hb4⟩
end


end Go.Proofs.Ytjhchjjpopbieaa.X
