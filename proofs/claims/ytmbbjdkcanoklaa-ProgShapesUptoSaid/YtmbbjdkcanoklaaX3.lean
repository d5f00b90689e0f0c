/- Printed by a program of this session (xprint) out of the kit's print, with functions proved by hand. -/
import Derived.Test.YtmbbjdkcanoklaaX0
namespace Go.Proofs.Ytmbbjdkcanoklaa.X
open Go.RowKit Go.Proofs.YtmbbjdkcanoklaaW.PrintWords Go.Proofs.YtmbbjdkcanoklaaW.PrintLast Go.Proofs.YtmbbjdkcanoklaaW.PrintMore Go.Proofs.YtmbbjdkcanoklaaW.XConv
attribute [local go_sem] max2_int min2_int max_two min_two max_three min_three max_four min_four   -- for this text's walks alone
set_option linter.unusedVariables false
set_option linter.unusedSimpArgs false

/-! ### prog_Compile: function 11 -/
abbrev MkE := S56
abbrev MkF := S51
abbrev MkP := S25
/-- What a maker holds, at block g: so many states, start, end, edges, tests. -/
structure MkSt (w0 : World) (pk : Nat → Prop) (W : World) (g : Nat) (n s e : Int) (E : List MkE) (T : List MkF) (vE vT : Value) : Prop where
 blk : W.heap[g]? = some (.cells #[.int .i64 n, .int .i64 s, .int .i64 e, vE, vT] 62 (0, 0))
 hE : Kd.R k56 56 W w0.heap.size (fun k => some k = vE.ownBlock) vE E
 hT : Kd.N k51 51 W w0.heap.size (fun k => pk k ∨ some k = vT.ownBlock) vT T
 bel : Below w0.heap.size w0 W
 hg : w0.heap.size ≤ g
 hp : ∀ k, pk k → k < w0.heap.size
/-- What a maker's function leaves alone. -/
structure MkStep (W W' : World) (g : Nat) (vE vT vE' vT' : Value) : Prop where
 size : W.heap.size ≤ W'.heap.size
 keep : ∀ k, k < W.heap.size → k ≠ g → some k ≠ vE.ownBlock → some k ≠ vT.ownBlock → W'.heap[k]? = W.heap[k]?
 ownE : ∀ b, vE'.ownBlock = some b → some b = vE.ownBlock ∨ W.heap.size ≤ b
 ownT : ∀ b, vT'.ownBlock = some b → some b = vT.ownBlock ∨ W.heap.size ≤ b
theorem MkStep.refl (W : World) (g : Nat) (vE vT : Value) : MkStep W W g vE vT vE vT := ⟨Nat.le_refl _, fun _ _ _ _ _ => rfl, fun b h => .inl h.symm, fun b h => .inl h.symm⟩
theorem MkStep.trans {W W1 W2 : World} {g : Nat} {vE vT vE1 vT1 vE2 vT2 : Value} (a : MkStep W W1 g vE vT vE1 vT1) (b : MkStep W1 W2 g vE1 vT1 vE2 vT2) : MkStep W W2 g vE vT vE2 vT2 := by
 refine ⟨Nat.le_trans a.size b.size, fun k hk h1 h2 h3 => ?_, fun q hq => ?_, fun q hq => ?_⟩
 ·
  refine (b.keep k (by have := a.size; omega) h1 (fun h => ?_) (fun h => ?_)).trans (a.keep k hk h1 h2 h3)
  ·
   rcases a.ownE k h.symm with h | h
   ·
    exact h2 h
   omega
  rcases a.ownT k h.symm with h | h
  ·
   exact h3 h
  omega
 ·
  rcases b.ownE q hq with h | h
  ·
   exact a.ownE q h.symm
  exact .inr (by have := a.size; omega)
 rcases b.ownT q hq with h | h
 ·
  exact a.ownT q h.symm
 exact .inr (by have := a.size; omega)
section
variable {w0 W : World} {pk : Nat → Prop} {g : Nat} {n s e : Int} {E : List MkE} {T : List MkF} {vE vT : Value}
theorem MkSt.neE (h : MkSt w0 pk W g n s e E T vE vT) : some g ≠ vE.ownBlock := Kd.R_ne h.hE h.blk (by decide)
theorem MkSt.neT (h : MkSt w0 pk W g n s e E T vE vT) : some g ≠ vT.ownBlock := Kd.N_ne h.hT h.blk (by decide)
theorem MkSt.neET (h : MkSt w0 pk W g n s e E T vE vT) : ∀ k, some k = vE.ownBlock → some k ≠ vT.ownBlock := by
 intro k h1 h2; obtain ⟨c1, e1⟩ := Kd.R_typed h.hE k h1.symm; obtain ⟨c2, e2⟩ := Kd.N_typed h.hT k h2.symm; rw [e1] at e2
 injection e2 with e2
 injection e2 with _ e2 _
 exact absurd e2 (by decide)
theorem MkSt.okT (h : MkSt w0 pk W g n s e E T vE vT) {W' : World} (hb : Below w0.heap.size w0 W') (hw : ∀ k, some k = vT.ownBlock → W'.heap[k]? = W.heap[k]?) : Kd.N k51 51 W' w0.heap.size (fun k => pk k ∨ some k = vT.ownBlock) vT T :=
 Kd.N_step h.hT (fun k hk _ => by
  rcases hk with hk | hk
  ·
   rw [hb.block k (h.hp k hk), h.bel.block k (h.hp k hk)]
  ·
   exact hw k hk)
theorem MkSt.okE (h : MkSt w0 pk W g n s e E T vE vT) {W' : World} (hw : ∀ k, some k = vE.ownBlock → W'.heap[k]? = W.heap[k]?) : Kd.R k56 56 W' w0.heap.size (fun k => some k = vE.ownBlock) vE E := Kd.R_move h.hE hw
/-- whatever leaves its three blocks alone -/
theorem MkSt.move (h : MkSt w0 pk W g n s e E T vE vT) {W' : World} (hb : Below W.heap.size W W') : MkSt w0 pk W' g n s e E T vE vT := by
 have hb0 : Below w0.heap.size w0 W' := h.bel.trans (hb.mono h.bel.size); refine ⟨blk_below h.blk hb, h.okE fun k hk => hb.block k ?_, h.okT hb0 fun k hk => hb.block k ?_, hb0, h.hg, h.hp⟩
 ·
  exact Kd.R_lt h.hE k hk.symm
 exact Kd.N_lt h.hT k hk.symm
theorem MkStep.below {W' : World} (hb : Below W.heap.size W W') : MkStep W W' g vE vT vE vT := ⟨hb.size, fun k hk _ _ _ => hb.block k hk, fun b h => .inl h.symm, fun b h => .inl h.symm⟩
/-- a store into the maker's own block -/
theorem MkSt.put (h : MkSt w0 pk W g n s e E T vE vT) (i : Nat) (u : Value) {n' s' e' : Int} (hu : (#[.int .i64 n, .int .i64 s, .int .i64 e, vE, vT] : Array Value).setIfInBounds i u = #[.int .i64 n', .int .i64 s', .int .i64 e', vE, vT]) :
  MkSt w0 pk (W.setCell ⟨g, i, none⟩ u) g n' s' e' E T vE vT ∧ MkStep W (W.setCell ⟨g, i, none⟩ u) g vE vT vE vT := by
 have hk : ∀ k, k ≠ g → (W.setCell ⟨g, i, none⟩ u).heap[k]? = W.heap[k]? := fun k hk => Below.heap_setCell W ⟨g, i, none⟩ u k hk; have hb0 := h.bel.setCell (p := ⟨g, i, none⟩) h.hg u; refine ⟨⟨blk_put h.blk i u hu, h.okE fun k hk2 => hk k fun e => h.neE (e ▸ hk2), h.okT hb0 fun k hk2 => hk k fun e => h.neT (e ▸ hk2), hb0, h.hg, h.hp⟩, by simp [World.setCell], fun k _ h1 _ _ => hk k h1, fun b h => .inl h.symm, fun b h => .inl h.symm⟩
theorem MkSt.cells (h : MkSt w0 pk W g n s e E T vE vT) : W.cell? ⟨g, 0, none⟩ = some (.int .i64 n) ∧ W.cell? ⟨g, 1, none⟩ = some (.int .i64 s) ∧ W.cell? ⟨g, 2, none⟩ = some (.int .i64 e) ∧ W.cell? ⟨g, 3, none⟩ = some vE ∧ W.cell? ⟨g, 4, none⟩ = some vT ∧ (∀ i, W.frozen? ⟨g, i, none⟩ = false) :=
 ⟨(blk_cell h.blk 0).trans rfl, (blk_cell h.blk 1).trans rfl, (blk_cell h.blk 2).trans rfl, (blk_cell h.blk 3).trans rfl, (blk_cell h.blk 4).trans rfl, fun i => blk_frozen h.blk i⟩
end
set_option maxHeartbeats 8000000 in
set_option maxRecDepth 100000 in
theorem mk_state {w0 W : World} {pk : Nat → Prop} {g : Nat} {n s e : Int} {E : List MkE} {T : List MkF} {vE vT : Value} (h : MkSt w0 pk W g n s e E T vE vT) (hn : 0 ≤ n ∧ n < 1000000000) :
  Calls Try.prog 39 #[.pointer (some ⟨g, 0, none⟩)] W fun r W' => r = .returned (.int .i64 n) ∧ MkSt w0 pk W' g (n + 1) s e E T vE vT ∧ MkStep W W' g vE vT vE vT := by
 obtain ⟨c0, _, _, _, _, hf⟩ := h.cells; have f0 := hf 0; clear hf; have HS := Aside0.mk h; clear h; have hn0 := hn.1; have hn1 := hn.2; clear hn
 go_enter Try.func39, Try.ntmps39
 go_wp2
 go_ret
 obtain ⟨h1, h2⟩ := HS.out.put 0 (.int .i64 (n + 1)) (n' := n + 1) (s' := s) (e' := e) rfl; exact ⟨rfl, h1, h2⟩
theorem mk_infoE : (Try.prog.info? 56).map (fun i => (i.zero, i.size, i.bytes)) = some (some (.agg #[(.int .i64 0), (.int .i64 0), (.int .i64 0), (.int .i64 0)]), 4, 32) := by kernel_rfl
set_option maxHeartbeats 8000000 in
set_option maxRecDepth 100000 in
theorem mk_lay {w0 W : World} {pk : Nat → Prop} {g : Nat} {n s e : Int} {E : List MkE} {T : List MkF} {vE vT : Value} (h : MkSt w0 pk W g n s e E T vE vT) (A : Option Addr) (c : Nat) (l : List MkE) (hl : Kd.C k56 W A l.length l) (hb : E.length + l.length < 1000000000) :
  Calls Try.prog 48 #[.pointer (some ⟨g, 0, none⟩), .slice A l.length c] W fun r W' => r = .returned (.tuple #[]) ∧ ∃ vE', MkSt w0 pk W' g n s e (E ++ l) T vE' vT ∧ MkStep W W' g vE vT vE' vT := by
 obtain ⟨_, _, _, c3, _, hf⟩ := h.cells; have f3 := hf 3; clear hf; have HS := Aside0.mk h; have HL := Aside0.mk hl; have HB := Aside0.mk hb; have hlb := hl.2.1; clear h hl hb; obtain ⟨Ao, co, rfl⟩ : ∃ Ao co, vE = .slice Ao E.length co := Kd.R_slice HS.out.hE; have hu29 := Try.underlying29; have hu56 := Try.underlying56
 go_enter Try.func48, Try.ntmps48
 go_wp2_with ((with_reducible refine gate_builtin (b := .append) (xs := #[.tmp 9, .tmp 10]) rfl ?_); at_builtin; refine Kd.R_append_rows k56 (w0 := w0) w0.heap.size rfl (.tmp 9) (.tmp 10) 29 56 (.agg #[(.int .i64 0), (.int .i64 0), (.int .i64 0), (.int .i64 0)]) 32 rfl Try.underlying29 mk_infoE rfl (by decide) (by omega) (.slice Ao E.length co) E l _ _ _ (fun _ => True) (fun _ => False) rfl rfl (Kd.R_mono HS.out.hE (fun _ _ => trivial)) HL.out (fun _ _ h => h) (fun _ h => h.elim) (fun _ _ => trivial) HS.out.bel HS.out.bel.size (by have := HB.out; omega) ?_; intro v2 w2 ho hb hg hat; obtain ⟨A2, c2, e2⟩ := Kd.R_slice ho; subst e2; simp only [List.length_append] at ho hat; have hb2 := blk_grown HS.out.blk hg HS.out.neE; have c3' : w2.cell? ⟨g, 3, none⟩ = some (.slice Ao E.length co) := (blk_cell hb2 3).trans rfl; have f3' := blk_frozen hb2 3; have HB2 := Aside0.mk hb2; have HO := Aside0.mk ho; have HBB := Aside0.mk hb; have HG := Aside0.mk hg; have HA := Aside0.mk hat; clear ho hb hg hat hb2)
 go_end0
 have h := HS.out; have hbk := HB2.out; have ho := HO.out; have hg := HG.out; have hsz : W.heap.size ≤ w2.heap.size := hg.size; have hk : ∀ k, k ≠ g → (w2.setCell ⟨g, 3, none⟩ (.slice A2 (E.length + l.length) c2)).heap[k]? = w2.heap[k]? := fun k hk => Below.heap_setCell w2 ⟨g, 3, none⟩ _ k hk; have hT2 := h.okT HBB.out (fun k hk2 => hg.block k (Kd.N_lt h.hT k hk2.symm) (fun e => h.neET k e hk2)); have hneE : some g ≠ (Value.slice A2 (E.length + l.length) c2).ownBlock := Kd.R_ne ho hbk (by decide); refine ⟨rfl, _, ⟨blk_put hbk 3 _ rfl, Kd.R_far (p := ⟨g, 3, none⟩) (Kd.R_tight rfl ho) (fun k hk2 e => by subst e; exact hneE hk2) _, Kd.N_far (p := ⟨g, 3, none⟩) hT2 (fun k hk2 e => ?_) _, HBB.out.setCell (p := ⟨g, 3, none⟩) h.hg _, h.hg, h.hp⟩, ?_⟩
 ·
  subst e
  rcases hk2 with hk2 | hk2
  rotate_left
  ·
   exact h.neT hk2
  have := h.hp _ hk2; have := h.hg
  omega
 refine ⟨by simp [World.setCell]; exact hsz, fun k hk1 hk2 hk3 _ => (hk k hk2).trans (hg.block k hk1 hk3), fun b hb => ?_, fun b hb => .inl hb.symm⟩
 rcases HA.out with e | ⟨b', e, hle⟩
 ·
  rw [← hb, e]; exact .inl rfl
 rw [e] at hb
 injection hb with hb
 subst hb; exact .inr hle
theorem mk_lit (W : World) (x : MkE) : Kd.C k56 (W.alloc (.cells #[.int .i64 x.f0, .int .i64 x.f1, .int .i64 x.f2, .int .i64 x.f3] 56)) (some ⟨W.heap.size, 0, none⟩) 1 [x] := by
 refine ⟨rfl, by omega, fun _ => ⟨_, rfl, fun j p hj => ?_⟩⟩
 have hj0 : j = 0 := by
  have := (List.getElem?_eq_some_iff.1 hj).1
  simp at this
  exact this
 subst hj0; obtain rfl : x = p := by simpa using hj
 refine ⟨_, rfl, k56_mk _ x, fun i u hu => ?_⟩
 have hb := blk_new W (.cells #[.int .i64 x.f0, .int .i64 x.f1, .int .i64 x.f2, .int .i64 x.f3] 56)
 have : ((⟨W.heap.size, 0, none⟩ : Addr).add (0 * Kd.sz k56 + i)) = ⟨W.heap.size, i, none⟩ := by
  simp [Addr.add]
  exact fun h => h.symm
 rw [this, blk_cell hb i]
 simpa using hu
set_option maxHeartbeats 8000000 in
set_option maxRecDepth 100000 in
theorem mk_free {w0 W : World} {pk : Nat → Prop} {g : Nat} {n s e : Int} {E : List MkE} {T : List MkF} {vE vT : Value} (h : MkSt w0 pk W g n s e E T vE vT) (a b : Int) (hb : E.length < 900000000) :
  Calls Try.prog 40 #[.pointer (some ⟨g, 0, none⟩), .int .i64 a, .int .i64 b] W fun r W' => r = .returned (.tuple #[]) ∧ ∃ vE', MkSt w0 pk W' g n s e (E ++ [⟨a, b, 0, 0⟩]) T vE' vT ∧ MkStep W W' g vE vT vE' vT := by
 have HS := Aside0.mk h; clear h; have hu29 := Try.underlying29; have hu56 := Try.underlying56
 go_enter Try.func40, Try.ntmps40
 go_wp2_with (go_at_call 48; refine (mk_lay (HS.out.move (below_alloc (Below.refl _ _) _)) (some ⟨W.heap.size, 0, none⟩) 1 [⟨a, b, 0, 0⟩] (mk_lit W ⟨a, b, 0, 0⟩) (by simp; omega)).mono ?_; rintro r w2 ⟨rfl, vE', h2, h3⟩; have H2 := Aside0.mk h2; have H3 := Aside0.mk h3; clear h2 h3)
 go_end0
 exact ⟨rfl, _, H2.out, (MkStep.below (below_alloc (Below.refl _ _) _)).trans H3.out⟩
set_option maxHeartbeats 8000000 in
set_option maxRecDepth 100000 in
theorem mk_step {w0 W : World} {pk : Nat → Prop} {g : Nat} {n s e : Int} {E : List MkE} {T : List MkF} {vE vT : Value} (h : MkSt w0 pk W g n s e E T vE vT) (a b : Int) (hn : 0 ≤ n ∧ n < 900000000) (hb : E.length < 900000000) :
  Calls Try.prog 36 #[.pointer (some ⟨g, 0, none⟩), .int .i64 a, .int .i64 b] W fun r W' => r = .returned (.tuple #[.int .i64 n, .int .i64 (n + 1)]) ∧ ∃ vE', MkSt w0 pk W' g (n + 2) s e (E ++ [⟨n, n + 1, a, b⟩]) T vE' vT ∧ MkStep W W' g vE vT vE' vT := by
 have HS := Aside0.mk h; clear h; have hn0 := hn.1; have hn1 := hn.2; clear hn; have hu29 := Try.underlying29; have hu56 := Try.underlying56
 go_enter Try.func36, Try.ntmps36
 go_wp2_with fail
 refine (mk_state HS.out (by omega)).mono ?_
 rintro r w2 ⟨rfl, h2, h3⟩; have H2 := Aside0.mk h2; have H3 := Aside0.mk h3; clear h2 h3
 go_wp2_with fail
 refine (mk_state H2.out (by omega)).mono ?_
 rintro r w3 ⟨rfl, h2, h3⟩; have H4 := Aside0.mk h2; have H5 := Aside0.mk h3; clear h2 h3
 go_wp2_with fail
 refine (mk_lay (H4.out.move (below_alloc (Below.refl _ _) _)) (some ⟨w3.heap.size, 0, none⟩) 1 [⟨n, n + 1, a, b⟩] (mk_lit w3 ⟨n, n + 1, a, b⟩) (by simp; omega)).mono ?_
 rintro r w4 ⟨rfl, vE', h2, h3⟩; have H6 := Aside0.mk h2; have H7 := Aside0.mk h3; clear h2 h3
 go_wp2
 go_ret2
 refine ⟨rfl, _, by rw [show n + 2 = n + 1 + 1 by omega]; exact H6.out, ((H3.out.trans H5.out).trans (MkStep.below (below_alloc (Below.refl _ _) _))).trans H7.out⟩
abbrev MkS := Int × List MkE × List MkF
def mkB (m : MkS) : Prop := 0 ≤ m.1 ∧ m.1 < 800000000 ∧ m.2.1.length < 800000000 ∧ m.2.2.length < 800000000
instance (m : MkS) : Decidable (mkB m) := by unfold mkB; infer_instance
def mkStepF (a b : Int) (m : MkS) : Option (MkS × Int × Int) := if mkB m then some ((m.1 + 2, m.2.1 ++ [⟨m.1, m.1 + 1, a, b⟩], m.2.2), m.1, m.1 + 1) else none
def mkFreeF (a b : Int) (m : MkS) : Option MkS := if mkB m then some (m.1, m.2.1 ++ [⟨a, b, 0, 0⟩], m.2.2) else none
def mkSeqL (F : MkP → MkS → Option (MkS × Int × Int)) : List MkP → MkS → Int → Int → Option (MkS × Int × Int)
 | [], m, a, b => some (m, a, b)
 | p :: l, m, a, b => (F p m).bind fun x => (mkFreeF b x.2.1 x.1).bind fun m2 => mkSeqL F l m2 a x.2.2
def mkAltL (F : MkP → MkS → Option (MkS × Int × Int)) (s : Int) : List MkP → MkS → List Int → Option (MkS × List Int)
 | [], m, e => some (m, e)
 | p :: l, m, e => (F p m).bind fun x => (mkFreeF s x.2.1 x.1).bind fun m2 => if e.length < 800000000 then mkAltL F s l m2 (e ++ [x.2.2]) else none
def mkEndsL (t : Int) : List Int → MkS → Option MkS
 | [], m => some m
 | b :: l, m => (mkFreeF b t m).bind fun m2 => mkEndsL t l m2
def mkSeqF (F : MkP → MkS → Option (MkS × Int × Int)) (l : List MkP) (m : MkS) : Option (MkS × Int × Int) := match l with | [] => none | p :: l => (F p m).bind fun x => mkSeqL F l x.1 x.2.1 x.2.2
def mkAltF (F : MkP → MkS → Option (MkS × Int × Int)) (l : List MkP) (m : MkS) : Option (MkS × Int × Int) :=
 if mkB m then (mkAltL F m.1 l (m.1 + 1, m.2.1, m.2.2) []).bind fun x => if mkB x.1 then (mkEndsL x.1.1 x.2 (x.1.1 + 1, x.1.2.1, x.1.2.2)).bind fun m2 => some (m2, m.1, x.1.1) else none else none
def mkStarF (F : MkP → MkS → Option (MkS × Int × Int)) (l : List MkP) (m : MkS) : Option (MkS × Int × Int) := match l with
 | [] => none
 | p :: _ => if mkB m then (F p (m.1 + 1, m.2.1, m.2.2)).bind fun x => (mkFreeF m.1 x.2.1 x.1).bind fun m2 => (mkFreeF x.2.2 m.1 m2).bind fun m3 => some (m3, m.1, m.1) else none
def mkTestF (t : List MkF) (m : MkS) : Option (MkS × Int × Int) := if mkB m then (if t.length < 800000000 then mkStepF 3 ((m.2.2.length : Int) + t.length - 1) (m.1, m.2.1, m.2.2 ++ t) else none) else none
def mkPath : Nat → MkP → MkS → Option (MkS × Int × Int)
 | 0, _, _ => none
 | k + 1, p, m => if p.f0 = 2 then mkStepF 1 0 m else if p.f0 = 3 then mkStepF 2 0 m else if p.f0 = 4 then mkSeqF (mkPath k) p.f1 m else if p.f0 = 5 then mkAltF (mkPath k) p.f1 m else if p.f0 = 6 then mkStarF (mkPath k) p.f1 m else if p.f0 = 7 then mkTestF p.f2 m else mkStepF 0 0 m
/-- what a path's function does, by some F -/
def MkC (w0 : World) (pk : Nat → Prop) (F : MkP → MkS → Option (MkS × Int × Int)) : Prop :=
 ∀ (W : World) (g : Nat) (s e : Int) (vE vT : Value) (p : MkP) (m m' : MkS) (a b : Int) (A1 : Option Addr) (c1 : Nat) (A2 : Option Addr) (c2 : Nat), MkSt w0 pk W g m.1 s e m.2.1 m.2.2 vE vT →
  p.f1.length ≤ c1 → Kd.F k25 w0 pk A1 p.f1.length p.f1 → p.f2.length ≤ c2 → Kd.F k51 w0 pk A2 p.f2.length p.f2 → F p m = some (m', a, b) →
  Calls Try.prog 28 #[.pointer (some ⟨g, 0, none⟩), .agg #[.int .i64 p.f0, .slice A1 p.f1.length c1, .slice A2 p.f2.length c2]] W fun r W' => r = .returned (.tuple #[.int .i64 a, .int .i64 b]) ∧ ∃ vE' vT', MkSt w0 pk W' g m'.1 s e m'.2.1 m'.2.2 vE' vT' ∧ MkStep W W' g vE vT vE' vT'
theorem mkFreeF_some {a b : Int} {m m' : MkS} (h : mkFreeF a b m = some m') : mkB m ∧ m' = (m.1, m.2.1 ++ [⟨a, b, 0, 0⟩], m.2.2) := by
 unfold mkFreeF at h
 split at h
 ·
  exact ⟨by assumption, (Option.some.inj h).symm⟩
 cases h
/-- an element of a row of paths, and what it leads to, in whatever world keeps what is old -/
theorem mk_elem {w0 : World} {pk : Nat → Prop} {A : Option Addr} {l : List MkP} (hF : Kd.F k25 w0 pk A l.length l) (hp : ∀ k, pk k → k < w0.heap.size) {W : World} (hW : Below w0.heap.size w0 W) (j : Nat) (hj : j < l.length) :
  ∃ ad A1 c1 A2 c2, A = some ad ∧ W.cell? (ad.add (j * 3)) = some (.int .i64 l[j].f0) ∧ W.cell? ⟨(ad.add (j * 3)).block, (ad.add (j * 3)).off + 1, none⟩ = some (.slice A1 l[j].f1.length c1) ∧ W.cell? ⟨(ad.add (j * 3)).block, (ad.add (j * 3)).off + 2, none⟩ = some (.slice A2 l[j].f2.length c2) ∧
   l[j].f1.length ≤ c1 ∧ Kd.F k25 w0 pk A1 l[j].f1.length l[j].f1 ∧ l[j].f2.length ≤ c2 ∧ Kd.F k51 w0 pk A2 l[j].f2.length l[j].f2 := by
 obtain ⟨ad, c, e, _, hK, hcc, hb⟩ := Kd.F_get hF z25 (j : Int) (by omega) (by omega)
 have hl : l.getD (j : Int).toNat z25 = l[j] := by
  rw [Int.toNat_natCast, List.getD_eq_getElem?_getD, List.getElem?_eq_getElem hj]; rfl
 rw [hl] at hK; obtain ⟨A1, c1, A2, c2, rfl, l1, g1, l2, g2⟩ := k25_openF hK; have hblk : W.heap[ad.block]? = w0.heap[ad.block]? := hW.block _ (hp _ (hb (by decide))); have hcell : ∀ o, W.cell? ⟨ad.block, o, none⟩ = w0.cell? ⟨ad.block, o, none⟩ := fun o => by simp only [World.cell?]; rw [hblk]
 have key : ∀ q u, [Value.int .i64 l[j].f0, .slice A1 l[j].f1.length c1, .slice A2 l[j].f2.length c2][q]? = some u → W.cell? (ad.add (j * 3 + q)) = some u := fun q u hq => by
  have h2 := hcc q u hq; rw [Int.toNat_natCast] at h2; have h3 : w0.cell? (ad.add (j * 3 + q)) = some u := h2; rw [← h3]; simp only [World.cell?, add_block, hblk]
 refine ⟨ad, A1, c1, A2, c2, e, key 0 _ rfl, ?_, ?_, l1, g1, l2, g2⟩
 ·
  rw [← add_field _ _ 1 (by omega)]; exact key 1 _ rfl
 rw [← add_field _ _ 2 (by omega)]; exact key 2 _ rfl
set_option maxHeartbeats 8000000 in
set_option maxRecDepth 100000 in
theorem mk_seq {w0 : World} {pk : Nat → Prop} {F : MkP → MkS → Option (MkS × Int × Int)} (hF : MkC w0 pk F) (W : World) (g : Nat) (s e : Int) (vE vT : Value) (l : List MkP) (m m' : MkS) (a b : Int) (A : Option Addr) (c : Nat) (h : MkSt w0 pk W g m.1 s e m.2.1 m.2.2 vE vT)
  (hc : l.length ≤ c) (hl : Kd.F k25 w0 pk A l.length l) (hf : mkSeqF F l m = some (m', a, b)) :
  Calls Try.prog 37 #[.pointer (some ⟨g, 0, none⟩), .slice A l.length c] W fun r W' => r = .returned (.tuple #[.int .i64 a, .int .i64 b]) ∧ ∃ vE' vT', MkSt w0 pk W' g m'.1 s e m'.2.1 m'.2.2 vE' vT' ∧ MkStep W W' g vE vT vE' vT' := by
 have hlen : l.length ≤ 9223372036854775807 := (Kd.F_now hl).2.1; have hp := h.hp
 cases l with
 | nil => cases hf
 | cons p rest =>
 obtain ⟨⟨m1, a1, b1⟩, hf1, hf2⟩ := Option.bind_eq_some_iff.1 hf; obtain ⟨ad, A1, c1, A2, c2, rfl, d0, d1, d2, l1, g1, l2, g2⟩ := mk_elem hl hp h.bel 0 (by simp); have HS := Aside0.mk h; have HFF := Aside0.mk hF; have HL := Aside0.mk hl; have HP := Aside0.mk hp; have H1 := Aside0.mk hf1; have H2 := Aside0.mk hf2; have G1 := Aside0.mk g1; have G2 := Aside0.mk g2; have e0 : ad.add 0 = ad := by unfold Addr.add; rw [if_pos rfl]
 simp only [List.getElem_cons_zero, Nat.zero_mul, e0] at d0 d1 d2 G1 G2 l1 l2; clear e0; simp only [List.length_cons] at hc hlen; clear h hF hl hp hf hf1 hf2 g1 g2; have hu25 := Try.underlying25; have hpos : 0 < rest.length + 1 := by omega
 simp only [List.length_cons]
 by_cases hc1 : c = 1
 ·
  obtain rfl : rest = [] := List.length_eq_zero_iff.1 (by omega); have hfin : (m1, a1, b1) = (m', a, b) := Option.some.inj H2.out
  injection hfin with e1 e2
  injection e2 with e2 e3
  subst e1 e2 e3; subst hc1; simp only [List.length_nil, Nat.zero_add] at hpos ⊢
  go_enter Try.func37, Try.ntmps37
  go_wp2_with (go_at_call 28; refine (HFF.out _ g s e vE vT p m m1 a1 b1 A1 c1 A2 c2 HS.out l1 G1.out l2 G2.out H1.out).mono ?_; rintro r w2 ⟨rfl, vE1, vT1, h2, h3⟩; have H3 := Aside0.mk h2; have H4 := Aside0.mk h3; clear h2 h3)
  go_loopw [7, 23] (fun v i wr => v = .int .i64 b1 ∧ i = .int .i64 0 ∧ wr = w2) (fun _ _ _ => 0)
  case atStart => exact ⟨rfl, rfl, rfl⟩
  case round =>
   obtain ⟨rfl, rfl, rfl⟩ := hrel
   go_wp2
   go_ret2
   exact ⟨rfl, _, _, H3.out, H4.out⟩
 have e3 : ∀ k, ad.add ((k + 1) * 3) = (⟨ad.block, ad.off + 3 + k * 3, none⟩ : Addr) := fun k => by
  have h := add_field ad 0 (3 + k * 3) (by omega); have h0 : ad.add 0 = ad := by unfold Addr.add; rw [if_pos rfl]
  rw [h0] at h; rw [show (k + 1) * 3 = 0 + (3 + k * 3) by omega, h, Nat.add_assoc]
 have E3 := Aside0.mk e3; clear e3
 go_enter Try.func37, Try.ntmps37
 go_wp2_with (go_at_call 28; refine (HFF.out _ g s e vE vT p m m1 a1 b1 A1 c1 A2 c2 HS.out l1 G1.out l2 G2.out H1.out).mono ?_; rintro r w2 ⟨rfl, vE1, vT1, h2, h3⟩; have H3 := Aside0.mk h2; have H4 := Aside0.mk h3; clear h2 h3)
 go_loopw [7, 23] (fun v i wr => ∃ (k : Nat) (mc : MkS) (b' : Int) (vE' vT' : Value), k ≤ rest.length ∧ i = .int .i64 k ∧ v = .int .i64 b' ∧ Aside0 (mkSeqL F (rest.drop k) mc a1 b' = some (m', a, b)) ∧ Aside0 (MkSt w0 pk wr g mc.1 s e mc.2.1 mc.2.2 vE' vT') ∧ Aside0 (MkStep W wr g vE vT vE' vT')) (fun _ i _ => rest.length - (intOf i).toNat)
 case atStart => exact ⟨0, m1, b1, vE1, vT1, Nat.zero_le _, rfl, rfl, H2, H3, H4⟩
 case round =>
  clear H3 H4 H1 H2 HS G1 G2 d0 d1 d2; obtain ⟨k, mc, b', vE', vT', hk, rfl, rfl, HQ, HS, HT⟩ := hrel
  by_cases hlt : k < rest.length
  rotate_left
  ·
   obtain rfl : k = rest.length := by omega
   have hq := HQ.out; rw [List.drop_length] at hq; have hfin : (mc, a1, b') = (m', a, b) := Option.some.inj hq
   injection hfin with e1 e2
   injection e2 with e2 e3
   subst e1 e2 e3; clear hq HQ
   go_wp2
   go_ret2
   exact ⟨rfl, _, _, HS.out, HT.out⟩
  have hq := HQ.out; rw [List.drop_eq_getElem_cons hlt] at hq; obtain ⟨⟨m3, a3, b3⟩, hq1, hq2⟩ := Option.bind_eq_some_iff.1 hq; obtain ⟨m4, hq3, hq4⟩ := Option.bind_eq_some_iff.1 hq2; obtain ⟨hq5, rfl⟩ := mkFreeF_some hq3; obtain ⟨ad', A3, c3, A4, c4, he, d0, d1, d2, l3, g3, l4, g4⟩ := mk_elem HL.out HP.out HS.out.bel (k + 1) (by simp; omega)
  cases he
  simp only [List.getElem_cons_succ, E3.out] at d0 d1 d2 l3 g3 l4 g4; have Q1 := Aside0.mk hq1; have Q4 := Aside0.mk hq4; have Q5 := Aside0.mk hq5; have G3 := Aside0.mk g3; have G4 := Aside0.mk g4; clear hq hq1 hq2 hq3 hq4 hq5 g3 g4 HQ
  go_wp2_with fail
  refine (HFF.out _ g s e vE' vT' rest[k] mc m3 a3 b3 A3 c3 A4 c4 (HS.out.move (below_alloc (Below.refl _ _) _)) l3 G3.out l4 G4.out Q1.out).mono ?_
  rintro r w3 ⟨rfl, vE3, vT3, h5, h6⟩; have H5 := Aside0.mk h5; have H6 := Aside0.mk h6; clear h5 h6
  go_wp2_with fail
  refine (mk_free H5.out b' a3 (by have := Q5.out.2.2.1; omega)).mono ?_
  rintro r w4 ⟨rfl, vE4, h7, h8⟩; have H7 := Aside0.mk h7; have H8 := Aside0.mk h8; clear h7 h8
  go_wp2
  go_roundw
  case rel => exact ⟨k + 1, (m3.1, m3.2.1 ++ [⟨b', a3, 0, 0⟩], m3.2.2), b3, vE4, vT3, by omega, by go_num, rfl, Q4, H7, ⟨((HT.out.trans (MkStep.below (below_alloc (Below.refl _ _) _))).trans H6.out).trans H8.out⟩⟩
  case measure => simp [intOf]; omega
theorem mk_step_kd {α : Type} {d : Kd α} {E : Nat} {W W' : World} {g : Nat} {vE vT vE' vT' v : Value} {base : Nat} {xs : List α} (h : d.R E W base (fun k => some k = v.ownBlock) v xs) (hs : MkStep W W' g vE vT vE' vT') (h1 : ∀ k, v.ownBlock = some k → k ≠ g ∧ some k ≠ vE.ownBlock ∧ some k ≠ vT.ownBlock) : d.R E W' base (fun k => some k = v.ownBlock) v xs :=
 Kd.R_move h fun k hk => hs.keep k (Kd.R_lt h k hk.symm) (h1 k hk.symm).1 (h1 k hk.symm).2.1 (h1 k hk.symm).2.2
theorem MkSt.apart {w0 W : World} {pk : Nat → Prop} {g : Nat} {n s e : Int} {E : List MkE} {T : List MkF} {vE vT v : Value} (h : MkSt w0 pk W g n s e E T vE vT) {base : Nat} {ok : Nat → Prop} {xs : List Int} (hv : Kd.R (Kd.int .i64) 3 W base ok v xs) : ∀ k, v.ownBlock = some k → k ≠ g ∧ some k ≠ vE.ownBlock ∧ some k ≠ vT.ownBlock := by
 intro k hk; obtain ⟨c0, e0⟩ := Kd.R_typed hv k hk; refine ⟨fun e => ?_, fun e => ?_, fun e => ?_⟩
 ·
  subst e; have := h.blk; rw [e0] at this
  injection this with this
  injection this with _ this _
  exact absurd this (by decide)
 ·
  obtain ⟨c2, e2⟩ := Kd.R_typed h.hE k e.symm; rw [e0] at e2
  injection e2 with e2
  injection e2 with _ e2 _
  exact absurd e2 (by decide)
 obtain ⟨c2, e2⟩ := Kd.N_typed h.hT k e.symm; rw [e0] at e2
 injection e2 with e2
 injection e2 with _ e2 _
 exact absurd e2 (by decide)
theorem MkSt.grown {w0 W W' : World} {pk : Nat → Prop} {g : Nat} {n s e : Int} {E : List MkE} {T : List MkF} {vE vT : Value} (h : MkSt w0 pk W g n s e E T vE vT) {row : Option Nat} (hg : W.grownBy W' row) (hb : Below w0.heap.size w0 W') (hr : ∀ k, row = some k → k ≠ g ∧ some k ≠ vE.ownBlock ∧ some k ≠ vT.ownBlock) : MkSt w0 pk W' g n s e E T vE vT :=
 ⟨blk_grown h.blk hg (fun e => (hr g e.symm).1 rfl), h.okE fun k hk => hg.block k (Kd.R_lt h.hE k hk.symm) (fun e => (hr k e.symm).2.1 hk), h.okT hb fun k hk => hg.block k (Kd.N_lt h.hT k hk.symm) (fun e => (hr k e.symm).2.2 hk), hb, h.hg, h.hp⟩
theorem MkStep.grown {W W1 W' : World} {g : Nat} {vE vT vE' vT' : Value} (h : MkStep W W1 g vE vT vE' vT') {row : Option Nat} (hg : W1.grownBy W' row) (hr : ∀ k, row = some k → W.heap.size ≤ k) : MkStep W W' g vE vT vE' vT' :=
 ⟨Nat.le_trans h.size hg.size, fun k hk h1 h2 h3 => (hg.block k (by have := h.size; omega) (fun e => by have := hr k e.symm; omega)).trans (h.keep k hk h1 h2 h3), h.ownE, h.ownT⟩
theorem mk_infoI : (Try.prog.info? 3).map (fun i => (i.zero, i.size, i.bytes)) = some (some (.int .i64 0), 1, 8) := by kernel_rfl
theorem mk_litI (W : World) (x : Int) : Kd.C (Kd.int .i64) (W.alloc (.cells #[.int .i64 x] 3)) (some ⟨W.heap.size, 0, none⟩) 1 [x] := by
 refine ⟨rfl, by omega, fun _ => ⟨_, rfl, fun j p hj => ?_⟩⟩
 have hj0 : j = 0 := by
  have := (List.getElem?_eq_some_iff.1 hj).1
  simp at this
  exact this
 subst hj0; obtain rfl : x = p := by simpa using hj
 refine ⟨[.int .i64 x], rfl, rfl, fun i u hu => ?_⟩
 have hb := blk_new W (.cells #[.int .i64 x] 3)
 have : ((⟨W.heap.size, 0, none⟩ : Addr).add (0 * Kd.sz (Kd.int .i64) + i)) = ⟨W.heap.size, i, none⟩ := by
  simp [Addr.add]
  exact fun h => h.symm
 rw [this, blk_cell hb i]
 simpa using hu
set_option maxHeartbeats 8000000 in
set_option maxRecDepth 100000 in
theorem mk_alt {w0 : World} {pk : Nat → Prop} {F : MkP → MkS → Option (MkS × Int × Int)} (hF : MkC w0 pk F) (W : World) (g : Nat) (s e : Int) (vE vT : Value) (l : List MkP) (m m' : MkS) (a b : Int) (A : Option Addr) (c : Nat) (h : MkSt w0 pk W g m.1 s e m.2.1 m.2.2 vE vT)
  (hc : l.length ≤ c) (hl : Kd.F k25 w0 pk A l.length l) (hf : mkAltF F l m = some (m', a, b)) :
  Calls Try.prog 38 #[.pointer (some ⟨g, 0, none⟩), .slice A l.length c] W fun r W' => r = .returned (.tuple #[.int .i64 a, .int .i64 b]) ∧ ∃ vE' vT', MkSt w0 pk W' g m'.1 s e m'.2.1 m'.2.2 vE' vT' ∧ MkStep W W' g vE vT vE' vT' := by
 have hlen : l.length ≤ 9223372036854775807 := (Kd.F_now hl).2.1; have hp := h.hp
 unfold mkAltF at hf
 split at hf
 case isFalse => cases hf
 rename_i hm
 obtain ⟨⟨m1, es⟩, hf1, hf2⟩ := Option.bind_eq_some_iff.1 hf
 dsimp only at hf2
 split at hf2
 case isFalse => cases hf2
 rename_i hm1
 obtain ⟨m2, hf3, hf4⟩ := Option.bind_eq_some_iff.1 hf2
 injection hf4 with hf4
 injection hf4 with e1 e2
 injection e2 with e2 e3
 subst e1 e2 e3; have HS := Aside0.mk h; have HFF := Aside0.mk hF; have HL := Aside0.mk hl; have HP := Aside0.mk hp; have H1 := Aside0.mk hf1; have H2 := Aside0.mk hf3; have HM := Aside0.mk hm; have HM1 := Aside0.mk hm1; clear h hF hl hp hf hf1 hf2 hf3 hm hm1; have hu25 := Try.underlying25; have hui := Try.underlying3; have hui2 := Try.underlying36
 go_enter Try.func38, Try.ntmps38
 go_wp2_with fail
 refine (mk_state HS.out (by have := HM.out; unfold mkB at this; omega)).mono ?_
 rintro r w2 ⟨rfl, h2, h3⟩; have H3 := Aside0.mk h2; have H4 := Aside0.mk h3; clear h2 h3
 go_wp2
 go_loopw [7, 19] (fun v i wr => ∃ (k : Nat) (mc : MkS) (ec : List Int) (vE' vT' : Value), k ≤ l.length ∧ i = .int .i64 k ∧ Aside0 (Kd.R (Kd.int .i64) 3 wr w0.heap.size (fun k => some k = v.ownBlock) v ec) ∧ Aside0 (∀ k, v.ownBlock = some k → W.heap.size ≤ k) ∧ Aside0 (mkAltL F m.1 (l.drop k) mc ec = some (m1, es)) ∧ Aside0 (MkSt w0 pk wr g mc.1 s e mc.2.1 mc.2.2 vE' vT') ∧ Aside0 (MkStep W wr g vE vT vE' vT')) (fun _ i _ => l.length - (intOf i).toNat)
 case atStart => exact ⟨0, (m.1 + 1, m.2.1, m.2.2), [], vE, vT, Nat.zero_le _, rfl, ⟨Kd.R_nil _ _ _ _ _⟩, ⟨fun k hk => by simp [Value.ownBlock] at hk⟩, H1, H3, H4⟩
 case round =>
  clear H1 H3 H4 HS; obtain ⟨k, mc, ec, vE', vT', hk, rfl, HO, HW, HQ, HS, HT⟩ := hrel
  by_cases hlt : k < l.length
  ·
   have hq := HQ.out; rw [List.drop_eq_getElem_cons hlt] at hq; obtain ⟨⟨m3, a3, b3⟩, hq1, hq2⟩ := Option.bind_eq_some_iff.1 hq; obtain ⟨m4, hq3, hq4⟩ := Option.bind_eq_some_iff.1 hq2; obtain ⟨hq5, rfl⟩ := mkFreeF_some hq3
   split at hq4
   case isFalse => cases hq4
   rename_i hq6
   obtain ⟨ad, A3, c3, A4, c4, rfl, d0, d1, d2, l3, g3, l4, g4⟩ := mk_elem HL.out HP.out HS.out.bel k hlt; have Q1 := Aside0.mk hq1; have Q4 := Aside0.mk hq4; have Q5 := Aside0.mk hq5; have Q6 := Aside0.mk hq6; have G3 := Aside0.mk g3; have G4 := Aside0.mk g4; clear hq hq1 hq2 hq3 hq4 hq5 hq6 g3 g4 HQ
   go_wp2_with fail
   refine (HFF.out _ g s e vE' vT' l[k] mc m3 a3 b3 A3 c3 A4 c4 (HS.out.move (below_alloc (Below.refl _ _) _)) l3 G3.out l4 G4.out Q1.out).mono ?_
   rintro r w3 ⟨rfl, vE3, vT3, h5, h6⟩; have HO3 := Aside0.mk (mk_step_kd (Kd.R_below HO.out (below_alloc (Below.refl _ _) _)) h6 (HS.out.apart HO.out)); have H5 := Aside0.mk h5; have H6 := Aside0.mk h6; clear h5 h6
   go_wp2_with fail
   refine (mk_free H5.out m.1 a3 (by have := Q5.out.2.2.1; omega)).mono ?_
   rintro r w4 ⟨rfl, vE4, h7, h8⟩; have HO4 := Aside0.mk (mk_step_kd HO3.out h8 (H5.out.apart HO3.out)); have H7 := Aside0.mk h7; have HT4 := Aside0.mk (((HT.out.trans (MkStep.below (below_alloc (Below.refl _ _) _))).trans H6.out).trans h8); clear h7 h8 HO3; obtain ⟨Av, cv, ev⟩ := Kd.R_slice HO4.out; subst ev
   go_wp2_with ((with_reducible refine gate_builtin (b := .append) (xs := #[.tmp 33, .tmp 35]) rfl ?_); at_builtin; refine Kd.R_append_rows (Kd.int .i64) (w0 := w0) w0.heap.size rfl (.tmp 33) (.tmp 35) 36 3 (.int .i64 0) 8 rfl Try.underlying36 mk_infoI rfl (by decide) (by omega) (.slice Av ec.length cv) ec [b3] _ _ _ (fun _ => True) (fun _ => False) rfl rfl (Kd.R_mono (Kd.R_below HO4.out (below_alloc (Below.refl _ _) _)) (fun _ _ => trivial)) (mk_litI w4 b3) (fun _ _ h => h) (fun _ h => h.elim) (fun _ _ => trivial) (H7.out.move (below_alloc (Below.refl _ _) _)).bel (H7.out.move (below_alloc (Below.refl _ _) _)).bel.size (by have := Q6.out; omega) ?_; intro v2 w5 ho hb hg hat; have HO := Aside0.mk ho; have HBB := Aside0.mk hb; have HG := Aside0.mk hg; have HA := Aside0.mk hat; clear ho hb hg hat)
   go_roundw
   case rel =>
    refine ⟨k + 1, (m3.1, m3.2.1 ++ [⟨m.1, a3, 0, 0⟩], m3.2.2), ec ++ [b3], vE4, vT3, by omega, by go_num, ⟨Kd.R_tight rfl HO.out⟩, ⟨fun q hq => ?_⟩, Q4, ⟨(H7.out.move (below_alloc (Below.refl _ _) _)).grown HG.out HBB.out (fun q hq => H7.out.apart HO4.out q hq)⟩, ⟨(HT4.out.trans (MkStep.below (below_alloc (Below.refl _ _) _))).grown HG.out (fun q hq => HW.out q hq)⟩⟩
    rcases HA.out with e | ⟨b', e, hle⟩
    ·
     rw [e] at hq; exact HW.out q hq
    rw [e] at hq
    injection hq with hq
    subst hq; have := HT4.out.size
    simp at hle
    omega
   case measure => simp [intOf]; omega
  obtain rfl : k = l.length := by omega
  have hq := HQ.out; rw [List.drop_length] at hq; have hfin : (mc, ec) = (m1, es) := Option.some.inj hq
  injection hfin with e1 e2
  subst e1 e2; clear hq HQ; obtain ⟨Av, cv, ev⟩ := Kd.R_slice HO.out; subst ev
  go_wp2_with fail
  refine (mk_state HS.out (by have := HM1.out; unfold mkB at this; omega)).mono ?_
  rintro r w3 ⟨rfl, h5, h6⟩; have HO3 := Aside0.mk (mk_step_kd HO.out h6 (HS.out.apart HO.out)); have H5 := Aside0.mk h5; have H6 := Aside0.mk (HT.out.trans h6); have hel : ec.length ≤ 9223372036854775807 := (Kd.R_reads' HO3.out).2.2.2.1; clear h5 h6 HO HS HT
  go_wp2
  go_loopw [42] (fun i wr => ∃ (k : Nat) (mq : MkS) (vE3 vT3 : Value), k ≤ ec.length ∧ i = .int .i64 k ∧ Aside0 (Kd.R (Kd.int .i64) 3 wr w0.heap.size (fun k => some k = (Value.slice Av ec.length cv).ownBlock) (.slice Av ec.length cv) ec) ∧ Aside0 (mkEndsL mc.1 (ec.drop k) mq = some m2) ∧ Aside0 (MkSt w0 pk wr g mq.1 s e mq.2.1 mq.2.2 vE3 vT3) ∧ Aside0 (MkStep W wr g vE vT vE3 vT3)) (fun i _ => ec.length - (intOf i).toNat)
  case atStart => exact ⟨0, (mc.1 + 1, mc.2.1, mc.2.2), vE', vT', Nat.zero_le _, rfl, HO3, H2, H5, H6⟩
  case round =>
   clear H2 H5 H6 HO3; obtain ⟨k, mq, vE3, vT3, hk2, rfl, HO, HQ, HS, HT⟩ := hrel
   by_cases hlt2 : k < ec.length
   rotate_left
   ·
    obtain rfl : k = ec.length := by omega
    have hq := HQ.out; rw [List.drop_length] at hq; have hfin : mq = m2 := Option.some.inj hq; subst hfin; clear hq HQ
    go_wp2
    go_ret2
    exact ⟨rfl, _, _, HS.out, HT.out⟩
   have hq := HQ.out; rw [List.drop_eq_getElem_cons hlt2] at hq; obtain ⟨mz, hq1, hq2⟩ := Option.bind_eq_some_iff.1 hq; obtain ⟨hq5, rfl⟩ := mkFreeF_some hq1; obtain ⟨ad, cc, he, hcl, hK, hcc⟩ := Kd.C_get (Kd.R_reads' HO.out).2.2 0 (k : Int) (by omega) (by omega); subst he
   have hd : wr.cell? (ad.add k) = some (.int .i64 ec[k]) := by
    have hK2 : cc = [.int .i64 (ec.getD (k : Int).toNat 0)] := hK; have h9 := hcc 0 (.int .i64 ec[k]) (by rw [hK2, Int.toNat_natCast, List.getD_eq_getElem?_getD, List.getElem?_eq_getElem hlt2]; rfl); rw [Int.toNat_natCast] at h9; have e9 : k * Kd.sz (Kd.int .i64) + 0 = k := Nat.mul_one k; rw [e9] at h9; exact h9
   have Q4 := Aside0.mk hq2; have Q5 := Aside0.mk hq5; clear hq hq1 hq2 hq5 HQ hK hcc hcl
   go_wp2_with fail
   refine (mk_free HS.out ec[k] mc.1 (by have := Q5.out.2.2.1; omega)).mono ?_
   rintro r w4 ⟨rfl, vE4, h7, h8⟩; have HO4 := Aside0.mk (mk_step_kd HO.out h8 (HS.out.apart HO.out)); have H7 := Aside0.mk h7; have H8 := Aside0.mk (HT.out.trans h8); clear h7 h8
   go_wp2
   go_roundw
   case rel => exact ⟨k + 1, _, vE4, vT3, by omega, by go_num, HO4, Q4, H7, H8⟩
   case measure => simp [intOf]; omega
theorem mkN_append_step {P : Program} {ops : Array Oper} {o : Oper} {a : Act} {Q : Exit → Act → World → Prop} {Kc : Act → World → Prop} {α : Type} (d : Kd α) {w0 W : World} {pk : Nat → Prop} (base : Nat) (hw : Region.wanted o (yielded ops a.tmps) = true) (s x : Operand) (t e : TypeId) (z : Value) (bytes : Nat)
  (ho : o.op = .call { callee := .builtin .append, args := #[s, x], argTypes := #[t, t] })
  (ht : P.underlying t = some (.slice e)) (hinfo : (P.info? e).map (fun i => (i.zero, i.size, i.bytes)) = some (some z, d.sz, bytes)) (hz : z.cells.size = d.sz) (hs0 : 0 < d.sz) (hb0 : 0 < bytes)
  (v : Value) (xs ys : List α) (A : Option Addr) (m c : Nat) (hs : a.eval s = v) (hx : a.eval x = .slice A m c)
  (HO : Kd.N d e W base (fun k => pk k ∨ some k = v.ownBlock) v xs) (HR : Kd.F d W pk A m ys) (hp : ∀ k, pk k → k < base)
  (HB : Below base w0 W) (hbase : base ≤ W.heap.size) (hl : (xs.length + m) * bytes ≤ 140737488355328)
  (h : ∀ v1 w1, Kd.N d e w1 base (fun k => pk k ∨ some k = v1.ownBlock) v1 (xs ++ ys) → Below base w0 w1 → W.grownBy w1 v.ownBlock → (v1.ownBlock = v.ownBlock ∨ ∃ b, v1.ownBlock = some b ∧ W.heap.size ≤ b) → Kc (a.put o.dst v1) w1) :
  if Region.wanted o (yielded ops a.tmps) = true then Oper.wp P o a W Kc Q else Kc (a.put o.dst undef) W := by
 have hown := Kd.N_base HO; obtain ⟨h0, rows, hlr, hR, hf⟩ := HO; obtain ⟨news, hnl, hnr, hnf⟩ := Kd.reads_raw (Kd.F_rows HR) (fun y c hk => ⟨d.K_len (Kd.FK_now hk), d.K_one (Kd.FK_now hk)⟩); refine Kd.R_append_rows_step (Kd.raw d.sz) base hw s x t e z bytes ho ht hinfo hz hs0 hb0 v rows news A m c (fun _ => True) (fun _ => False) hs hx (Kd.raw_any hR) hnr (fun _ _ hk => hk) (fun _ hk => hk.elim) (fun _ _ => trivial) HB hbase (by rw [hlr]; exact hl) ?_
 intro v1 w1 hr hb hg hat; have hkeep : ∀ k, pk k → w1.heap[k]? = W.heap[k]? := fun k hk => hg.block k (by have := hp k hk; omega) (fun e => by have := hown k e.symm; have := hp k hk; omega); refine h v1 w1 ⟨fun k hk => .inr hk.symm, rows ++ news, by simp [hlr, hnl], Kd.R_tight rfl hr, fun j x c hx hc => ?_⟩ hb hg hat
 have key : Kd.FK d w1 pk x c := by
  refine Kd.FK_step (W := W) ?_ (fun k hk _ => hkeep k hk)
  by_cases hj : j < rows.length
  ·
   rw [List.getElem?_append_left (by omega)] at hx; rw [List.getElem?_append_left hj] at hc; exact Kd.FK_mono (hf j x c hx hc) (fun k hk => hk.1.resolve_right hk.2)
  rw [List.getElem?_append_right (by omega)] at hx; rw [List.getElem?_append_right (by omega), hlr] at hc; exact hnf _ x c hx hc
 exact Kd.FK_mono key (fun k hk => ⟨.inl hk, fun e => by have := Kd.R_base hr k e.symm; have := hp k hk; omega⟩)
theorem mk_infoF : (Try.prog.info? 51).map (fun i => (i.zero, i.size, i.bytes)) = some (some (.agg #[(.int .i64 0), (.string ⟨#[]⟩), (.string ⟨#[]⟩), (.string ⟨#[]⟩), (.slice none 0 0), (.slice none 0 0)]), 6, 104) := by kernel_rfl
theorem mkStepF_some {x y : Int} {m m' : MkS} {a b : Int} (h : mkStepF x y m = some (m', a, b)) : mkB m ∧ m' = (m.1 + 2, m.2.1 ++ [⟨m.1, m.1 + 1, x, y⟩], m.2.2) ∧ a = m.1 ∧ b = m.1 + 1 := by
 unfold mkStepF at h
 split at h
 rotate_left
 ·
  cases h
 have h := Option.some.inj h
 injection h with h1 h2
 injection h2 with h2 h3
 exact ⟨by assumption, h1.symm, h2.symm, h3.symm⟩
theorem MkSt.al {w0 W : World} {pk : Nat → Prop} {g : Nat} {n s e : Int} {E : List MkE} {T : List MkF} {vE vT : Value} (h : MkSt w0 pk W g n s e E T vE vT) (o : Obj) : MkSt w0 pk (W.alloc o) g n s e E T vE vT := h.move (below_alloc (Below.refl _ _) _)
theorem MkStep.al {W : World} {g : Nat} {vE vT : Value} (o : Obj) : MkStep W (W.alloc o) g vE vT vE vT := MkStep.below (below_alloc (Below.refl _ _) _)
set_option maxHeartbeats 8000000 in
set_option maxRecDepth 100000 in
theorem mk_path_plain {w0 : World} {pk : Nat → Prop} (W : World) (g : Nat) (s e : Int) (vE vT : Value) (p : MkP) (m m' : MkS) (a b x y : Int) (A1 : Option Addr) (c1 : Nat) (A2 : Option Addr) (c2 : Nat) (h : MkSt w0 pk W g m.1 s e m.2.1 m.2.2 vE vT)
  (hlen : p.f1.length ≤ 9223372036854775807) (hlen2 : p.f2.length ≤ 9223372036854775807) (ho : (p.f0 = 2 ∧ x = 1 ∧ y = 0) ∨ (p.f0 = 3 ∧ x = 2 ∧ y = 0) ∨ (p.f0 ≠ 2 ∧ p.f0 ≠ 3 ∧ p.f0 ≠ 4 ∧ p.f0 ≠ 5 ∧ p.f0 ≠ 6 ∧ p.f0 ≠ 7 ∧ x = 0 ∧ y = 0)) (hf : mkStepF x y m = some (m', a, b)) :
  Calls Try.prog 28 #[.pointer (some ⟨g, 0, none⟩), .agg #[.int .i64 p.f0, .slice A1 p.f1.length c1, .slice A2 p.f2.length c2]] W fun r W' => r = .returned (.tuple #[.int .i64 a, .int .i64 b]) ∧ ∃ vE' vT', MkSt w0 pk W' g m'.1 s e m'.2.1 m'.2.2 vE' vT' ∧ MkStep W W' g vE vT vE' vT' := by
 obtain ⟨hm, rfl, rfl, rfl⟩ := mkStepF_some hf; have HS := Aside0.mk h; have HM := Aside0.mk hm; clear h hm hf; have hu25 := Try.underlying25; obtain ⟨op, hop⟩ : ∃ op, op = p.f0 := ⟨_, rfl⟩; rw [← hop] at ho ⊢; clear hop
 rcases ho with ⟨rfl, rfl, rfl⟩ | ⟨rfl, rfl, rfl⟩ | ⟨o2, o3, o4, o5, o6, o7, rfl, rfl⟩
 ·
  go_enter Try.func28, Try.ntmps28
  go_wp2_with fail
  refine (mk_step (HS.out.al _) 1 0 ⟨HM.out.1, by have := HM.out.2.1; omega⟩ (by have := HM.out.2.2.1; omega)).mono ?_
  rintro r w2 ⟨rfl, vE', h2, h3⟩; have H2 := Aside0.mk h2; have H3 := Aside0.mk h3; clear h2 h3
  go_wp2
  go_ret2
  exact ⟨rfl, _, _, H2.out, (MkStep.al _).trans H3.out⟩
 ·
  go_enter Try.func28, Try.ntmps28
  go_wp2_with fail
  refine (mk_step (HS.out.al _) 2 0 ⟨HM.out.1, by have := HM.out.2.1; omega⟩ (by have := HM.out.2.2.1; omega)).mono ?_
  rintro r w2 ⟨rfl, vE', h2, h3⟩; have H2 := Aside0.mk h2; have H3 := Aside0.mk h3; clear h2 h3
  go_wp2
  go_ret2
  exact ⟨rfl, _, _, H2.out, (MkStep.al _).trans H3.out⟩
 have b2 : (op == 2) = false := beq_eq_false_iff_ne.mpr o2; have b3 : (op == 3) = false := beq_eq_false_iff_ne.mpr o3; have b4 : (op == 4) = false := beq_eq_false_iff_ne.mpr o4; have b5 : (op == 5) = false := beq_eq_false_iff_ne.mpr o5; have b6 : (op == 6) = false := beq_eq_false_iff_ne.mpr o6; have b7 : (op == 7) = false := beq_eq_false_iff_ne.mpr o7; clear o2 o3 o4 o5 o6 o7
 go_enter Try.func28, Try.ntmps28
 go_wp2_with fail
 refine (mk_step (HS.out.al _) 0 0 ⟨HM.out.1, by have := HM.out.2.1; omega⟩ (by have := HM.out.2.2.1; omega)).mono ?_
 rintro r w2 ⟨rfl, vE', h2, h3⟩; have H2 := Aside0.mk h2; have H3 := Aside0.mk h3; clear h2 h3
 go_wp2
 go_ret2
 exact ⟨rfl, _, _, H2.out, (MkStep.al _).trans H3.out⟩
set_option maxHeartbeats 8000000 in
set_option maxRecDepth 100000 in
theorem mk_path_seq {w0 : World} {pk : Nat → Prop} {F : MkP → MkS → Option (MkS × Int × Int)} (hF : MkC w0 pk F) (W : World) (g : Nat) (s e : Int) (vE vT : Value) (p : MkP) (m m' : MkS) (a b : Int) (A1 : Option Addr) (c1 : Nat) (A2 : Option Addr) (c2 : Nat) (h : MkSt w0 pk W g m.1 s e m.2.1 m.2.2 vE vT)
  (l1 : p.f1.length ≤ c1) (g1 : Kd.F k25 w0 pk A1 p.f1.length p.f1) (hlen2 : p.f2.length ≤ 9223372036854775807) (ho : (p.f0 = 4 ∧ mkSeqF F p.f1 m = some (m', a, b)) ∨ (p.f0 = 5 ∧ mkAltF F p.f1 m = some (m', a, b))) :
  Calls Try.prog 28 #[.pointer (some ⟨g, 0, none⟩), .agg #[.int .i64 p.f0, .slice A1 p.f1.length c1, .slice A2 p.f2.length c2]] W fun r W' => r = .returned (.tuple #[.int .i64 a, .int .i64 b]) ∧ ∃ vE' vT', MkSt w0 pk W' g m'.1 s e m'.2.1 m'.2.2 vE' vT' ∧ MkStep W W' g vE vT vE' vT' := by
 have hlen := (Kd.F_now g1).2.1; have HS := Aside0.mk h; have HFF := Aside0.mk hF; have G1 := Aside0.mk g1; clear h hF g1; have hu25 := Try.underlying25; obtain ⟨op, hop⟩ : ∃ op, op = p.f0 := ⟨_, rfl⟩; rw [← hop] at ho ⊢; clear hop
 rcases ho with ⟨rfl, hf⟩ | ⟨rfl, hf⟩
 ·
  have HQ := Aside0.mk hf; clear hf
  go_enter Try.func28, Try.ntmps28
  go_wp2_with fail
  refine (mk_seq HFF.out _ g s e vE vT p.f1 m m' a b A1 c1 (HS.out.al _) l1 G1.out HQ.out).mono ?_
  rintro r w2 ⟨rfl, vE', vT', h2, h3⟩; have H2 := Aside0.mk h2; have H3 := Aside0.mk h3; clear h2 h3
  go_wp2
  go_ret2
  exact ⟨rfl, _, _, H2.out, (MkStep.al _).trans H3.out⟩
 have HQ := Aside0.mk hf; clear hf
 go_enter Try.func28, Try.ntmps28
 go_wp2_with fail
 refine (mk_alt HFF.out _ g s e vE vT p.f1 m m' a b A1 c1 (HS.out.al _) l1 G1.out HQ.out).mono ?_
 rintro r w2 ⟨rfl, vE', vT', h2, h3⟩; have H2 := Aside0.mk h2; have H3 := Aside0.mk h3; clear h2 h3
 go_wp2
 go_ret2
 exact ⟨rfl, _, _, H2.out, (MkStep.al _).trans H3.out⟩
set_option maxHeartbeats 8000000 in
set_option maxRecDepth 100000 in
theorem mk_path_star {w0 : World} {pk : Nat → Prop} {F : MkP → MkS → Option (MkS × Int × Int)} (hF : MkC w0 pk F) (W : World) (g : Nat) (s e : Int) (vE vT : Value) (op : Int) (ho : op = 6) (l : List MkP) (m m' : MkS) (a b : Int) (A1 : Option Addr) (c1 : Nat) (A2 : Option Addr) (n2 c2 : Nat) (h : MkSt w0 pk W g m.1 s e m.2.1 m.2.2 vE vT)
  (l1 : l.length ≤ c1) (g1 : Kd.F k25 w0 pk A1 l.length l) (hf : mkStarF F l m = some (m', a, b)) :
  Calls Try.prog 28 #[.pointer (some ⟨g, 0, none⟩), .agg #[.int .i64 op, .slice A1 l.length c1, .slice A2 n2 c2]] W fun r W' => r = .returned (.tuple #[.int .i64 a, .int .i64 b]) ∧ ∃ vE' vT', MkSt w0 pk W' g m'.1 s e m'.2.1 m'.2.2 vE' vT' ∧ MkStep W W' g vE vT vE' vT' := by
 subst ho; have hlen := (Kd.F_now g1).2.1
 cases l with
 | nil => cases hf
 | cons p rest =>
 unfold mkStarF at hf
 dsimp only at hf
 split at hf
 case isFalse => cases hf
 rename_i hm
 obtain ⟨⟨m3, a3, b3⟩, hq1, hq2⟩ := Option.bind_eq_some_iff.1 hf; obtain ⟨m4, hq3, hq4⟩ := Option.bind_eq_some_iff.1 hq2; obtain ⟨m5, hq5, hq6⟩ := Option.bind_eq_some_iff.1 hq4; obtain ⟨hb3, rfl⟩ := mkFreeF_some hq3; obtain ⟨hb4, rfl⟩ := mkFreeF_some hq5
 injection hq6 with hq6
 injection hq6 with e1 e2
 injection e2 with e2 e3
 subst e1 e2 e3; have hgl : g < W.heap.size := (Array.getElem?_eq_some_iff.1 h.blk).1; have HS := Aside0.mk h; have HFF := Aside0.mk hF; have G1 := Aside0.mk g1; have HM := Aside0.mk hm; have Q1 := Aside0.mk hq1; have B3 := Aside0.mk hb3; have B4 := Aside0.mk hb4; clear h hF g1 hm hq1 hq2 hq3 hq4 hq5 hb3 hb4 hf; simp only [List.length_cons] at hlen l1; have hpos : 0 < rest.length + 1 := by omega
 have hu25 := Try.underlying25; simp only [List.length_cons]
 go_enter Try.func28, Try.ntmps28
 go_wp2_with fail
 refine (mk_state (HS.out.al _) (by have := HM.out; unfold mkB at this; omega)).mono ?_
 rintro r w2 ⟨rfl, h2, h3⟩; have hbx := h3.keep W.heap.size (by simp) (by omega) (fun e => by have := Kd.R_lt HS.out.hE _ e.symm; omega) (fun e => by have := Kd.N_lt HS.out.hT _ e.symm; omega); have hbx2 : w2.heap[W.heap.size]? = some (.cells #[.int .i64 6, .slice A1 (rest.length + 1) c1, .slice A2 n2 c2] 25 (0, 0)) := hbx.trans (blk_new W _); have x1 : w2.cell? ⟨W.heap.size, 1, none⟩ = some (.slice A1 (rest.length + 1) c1) := (blk_cell hbx2 1).trans rfl; obtain ⟨ad, A3, c3, A4, c4, rfl, d0, d1, d2, l3, g3, l4, g4⟩ := mk_elem G1.out h2.hp h2.bel 0 (by simp); have e0 : ad.add 0 = ad := by unfold Addr.add; rw [if_pos rfl]
 simp only [List.getElem_cons_zero, Nat.zero_mul, e0] at d0 d1 d2 l3 g3 l4 g4; have G3 := Aside0.mk g3; have G4 := Aside0.mk g4; have H2 := Aside0.mk h2; have H3 := Aside0.mk h3; clear h2 h3 hbx hbx2 g3 g4 e0
 go_wp2_with fail
 refine (HFF.out _ g s e vE vT p (m.1 + 1, m.2.1, m.2.2) m3 a3 b3 A3 c3 A4 c4 H2.out l3 G3.out l4 G4.out Q1.out).mono ?_
 rintro r w3 ⟨rfl, vE3, vT3, h5, h6⟩; have H5 := Aside0.mk h5; have H6 := Aside0.mk h6; clear h5 h6
 go_wp2_with fail
 refine (mk_free H5.out m.1 a3 (by have := B3.out.2.2.1; omega)).mono ?_
 rintro r w4 ⟨rfl, vE4, h7, h8⟩; have H7 := Aside0.mk h7; have H8 := Aside0.mk h8; clear h7 h8
 go_wp2_with fail
 refine (mk_free H7.out b3 m.1 (by have := B4.out.2.2.1; simp at this ⊢; omega)).mono ?_
 rintro r w5 ⟨rfl, vE5, h7, h8⟩; have H9 := Aside0.mk h7; have H10 := Aside0.mk h8; clear h7 h8
 go_wp2
 go_ret2
 exact ⟨rfl, _, _, H9.out, ((((MkStep.al _).trans H3.out).trans H6.out).trans H8.out).trans H10.out⟩
theorem MkSt.putT {w0 W w2 : World} {pk : Nat → Prop} {g : Nat} {n s e : Int} {E : List MkE} {T T' : List MkF} {vE vT v2 : Value} (h : MkSt w0 pk W g n s e E T vE vT) (hg : W.grownBy w2 vT.ownBlock) (hb : Below w0.heap.size w0 w2) (ho : Kd.N k51 51 w2 w0.heap.size (fun k => pk k ∨ some k = v2.ownBlock) v2 T')
  (hat : v2.ownBlock = vT.ownBlock ∨ ∃ b, v2.ownBlock = some b ∧ W.heap.size ≤ b) : MkSt w0 pk (w2.setCell ⟨g, 4, none⟩ v2) g n s e E T' vE v2 ∧ MkStep W (w2.setCell ⟨g, 4, none⟩ v2) g vE vT vE v2 := by
 have hbk := blk_grown h.blk hg h.neT; have hne : some g ≠ v2.ownBlock := Kd.N_ne ho hbk (by decide); have hk : ∀ k, k ≠ g → (w2.setCell ⟨g, 4, none⟩ v2).heap[k]? = w2.heap[k]? := fun k hk => Below.heap_setCell w2 ⟨g, 4, none⟩ _ k hk; refine ⟨⟨blk_put hbk 4 _ rfl, h.okE fun k hk2 => (hk k fun e => h.neE (e ▸ hk2)).trans (hg.block k (Kd.R_lt h.hE k hk2.symm) (h.neET k hk2)), Kd.N_far (p := ⟨g, 4, none⟩) ho (fun k hk2 e => ?_) _, hb.setCell (p := ⟨g, 4, none⟩) h.hg _, h.hg, h.hp⟩, ?_⟩
 ·
  subst e
  rcases hk2 with hk2 | hk2
  rotate_left
  ·
   exact hne hk2
  have := h.hp _ hk2; have := h.hg
  omega
 refine ⟨by simp [World.setCell]; exact hg.size, fun k hk1 hk2 _ hk3 => (hk k hk2).trans (hg.block k hk1 hk3), fun b hb => .inl hb.symm, fun b hb => ?_⟩
 rcases hat with e | ⟨b', e, hle⟩
 ·
  rw [← hb, e]; exact .inl rfl
 rw [e] at hb
 injection hb with hb
 subst hb; exact .inr hle
set_option maxHeartbeats 8000000 in
set_option maxRecDepth 100000 in
theorem mk_path_test {w0 : World} {pk : Nat → Prop} (W : World) (g : Nat) (s e : Int) (vE vT : Value) (op : Int) (ho : op = 7) (l : List MkF) (m m' : MkS) (a b : Int) (A1 : Option Addr) (n1 c1 : Nat) (A2 : Option Addr) (c2 : Nat) (h : MkSt w0 pk W g m.1 s e m.2.1 m.2.2 vE vT)
  (g2 : Kd.F k51 w0 pk A2 l.length l) (hf : mkTestF l m = some (m', a, b)) :
  Calls Try.prog 28 #[.pointer (some ⟨g, 0, none⟩), .agg #[.int .i64 op, .slice A1 n1 c1, .slice A2 l.length c2]] W fun r W' => r = .returned (.tuple #[.int .i64 a, .int .i64 b]) ∧ ∃ vE' vT', MkSt w0 pk W' g m'.1 s e m'.2.1 m'.2.2 vE' vT' ∧ MkStep W W' g vE vT vE' vT' := by
 subst ho
 unfold mkTestF at hf
 split at hf
 case isFalse => cases hf
 rename_i hm
 split at hf
 case isFalse => cases hf
 rename_i hl
 obtain ⟨hm2, rfl, rfl, rfl⟩ := mkStepF_some hf; have hlen := (Kd.F_now g2).2.1; obtain ⟨At, ct, rfl⟩ := Kd.N_slice h.hT; have hgl : g < W.heap.size := (Array.getElem?_eq_some_iff.1 h.blk).1; have hcc := (h.al (.cells #[.int .i64 7, .slice A1 n1 c1, .slice A2 l.length c2] 25)).cells; have c4 := hcc.2.2.2.2.1; have f4 := hcc.2.2.2.2.2 4; clear hcc; have HS := Aside0.mk h; have G2 := Aside0.mk g2; have HM := Aside0.mk hm; have HM2 := Aside0.mk hm2; have HL := Aside0.mk hl; clear h g2 hm hm2 hl hf; have hu25 := Try.underlying25; have hu51 := Try.underlying51; have hu23 := Try.underlying23
 go_enter Try.func28, Try.ntmps28
 go_wp2
 go_region_law (refine mkN_append_step k51 (w0 := w0) (pk := pk) w0.heap.size (by rfl) (.tmp 69) (.tmp 71) 23 51 (.agg #[(.int .i64 0), (.string ⟨#[]⟩), (.string ⟨#[]⟩), (.string ⟨#[]⟩), (.slice none 0 0), (.slice none 0 0)]) 104 rfl Try.underlying23 mk_infoF rfl (by decide) (by omega) (.slice At m.2.2.length ct) m.2.2 l _ _ _ rfl rfl (HS.out.move (by repeat (first | exact Below.refl _ _ | apply below_alloc | apply below_drew | apply pw_below_drewN))).hT (Kd.F_step G2.out (fun k _ hk => (HS.out.move (by repeat (first | exact Below.refl _ _ | apply below_alloc | apply below_drew | apply pw_below_drewN))).bel.block k hk)) HS.out.hp (HS.out.move (by repeat (first | exact Below.refl _ _ | apply below_alloc | apply below_drew | apply pw_below_drewN))).bel (HS.out.move (by repeat (first | exact Below.refl _ _ | apply below_alloc | apply below_drew | apply pw_below_drewN))).bel.size (by have := HL.out; have := HM.out; unfold mkB at this; omega) ?_; intro v2 w2 ho hb hg hat; obtain ⟨A5, c5, e5⟩ := Kd.N_slice ho; subst e5; simp only [List.length_append] at ho hat; have hb2 := blk_grown (HS.out.move (by repeat (first | exact Below.refl _ _ | apply below_alloc | apply below_drew | apply pw_below_drewN))).blk hg (HS.out.move (by repeat (first | exact Below.refl _ _ | apply below_alloc | apply below_drew | apply pw_below_drewN))).neT; have c4' : w2.cell? ⟨g, 4, none⟩ = some (.slice At m.2.2.length ct) := (blk_cell hb2 4).trans rfl; have f4' := blk_frozen hb2 4; have HB2 := Aside0.mk hb2; have HO := Aside0.mk ho; have HBB := Aside0.mk hb; have HG := Aside0.mk hg; have HA := Aside0.mk hat; clear ho hb hg hat hb2)
 all_goals
  obtain ⟨h5, h6⟩ := (HS.out.move (by repeat (first | exact Below.refl _ _ | apply below_alloc | apply below_drew | apply pw_below_drewN))).putT HG.out HBB.out HO.out HA.out; have hz : (w2.setCell ⟨g, 4, none⟩ (.slice A5 (m.2.2.length + l.length) c5)).cell? ⟨g, 4, none⟩ = some (.slice A5 (m.2.2.length + l.length) c5) := h5.cells.2.2.2.2.1; have H5 := Aside0.mk h5; have H6 := Aside0.mk ((MkStep.below (W := W) (by repeat (first | exact Below.refl _ _ | apply below_alloc | apply below_drew | apply pw_below_drewN))).trans h6); clear h5 h6 HO HG HA; obtain ⟨W5, hW5⟩ : ∃ W5, w2.setCell ⟨g, 4, none⟩ (.slice A5 (m.2.2.length + l.length) c5) = W5 := ⟨_, rfl⟩; rw [hW5] at hz H5 H6 ⊢; clear hW5 c4' f4' HB2; have hlm : m.2.2.length + l.length < 9000000000 := by have := HL.out; have := HM.out; unfold mkB at this; omega
  go_wp2_with fail
  refine (mk_step H5.out 3 ((m.2.2.length : Int) + l.length - 1) ⟨HM.out.1, by have := HM.out.2.1; omega⟩ (by have := HM.out.2.2.1; omega)).mono ?_
  rintro r w3 ⟨rfl, vE', h7, h8⟩; have H7 := Aside0.mk h7; have H8 := Aside0.mk (H6.out.trans h8); clear h7 h8
  go_wp2
  go_ret2
  exact ⟨rfl, _, _, H7.out, H8.out⟩
theorem mk_path {w0 : World} {pk : Nat → Prop} : ∀ k, MkC w0 pk (mkPath k) := by
 intro k
 induction k with
 | zero => intro W g s e vE vT p m m' a b A1 c1 A2 c2 _ _ _ _ _ h; cases h
 | succ k ih =>
 intro W g s e vE vT p m m' a b A1 c1 A2 c2 h l1 g1 l2 g2 hf; have hlen := (Kd.F_now g1).2.1; have hlen2 := (Kd.F_now g2).2.1; rw [mkPath] at hf
 split at hf
 ·
  rename_i o
  exact mk_path_plain W g s e vE vT p m m' a b 1 0 A1 c1 A2 c2 h hlen hlen2 (.inl ⟨o, rfl, rfl⟩) hf
 split at hf
 ·
  rename_i o
  exact mk_path_plain W g s e vE vT p m m' a b 2 0 A1 c1 A2 c2 h hlen hlen2 (.inr (.inl ⟨o, rfl, rfl⟩)) hf
 split at hf
 ·
  rename_i o
  exact mk_path_seq ih W g s e vE vT p m m' a b A1 c1 A2 c2 h l1 g1 hlen2 (.inl ⟨o, hf⟩)
 split at hf
 ·
  rename_i o
  exact mk_path_seq ih W g s e vE vT p m m' a b A1 c1 A2 c2 h l1 g1 hlen2 (.inr ⟨o, hf⟩)
 split at hf
 ·
  rename_i o
  exact mk_path_star ih W g s e vE vT p.f0 o p.f1 m m' a b A1 c1 A2 p.f2.length c2 h l1 g1 hf
 split at hf
 ·
  rename_i o
  exact mk_path_test W g s e vE vT p.f0 o p.f2 m m' a b A1 p.f1.length c1 A2 c2 h g2 hf
 rename_i o2 o3 o4 o5 o6 o7
 exact mk_path_plain W g s e vE vT p m m' a b 0 0 A1 c1 A2 c2 h hlen hlen2 (.inr (.inr ⟨o2, o3, o4, o5, o6, o7, rfl, rfl⟩)) hf
/-! more rounds answer the same -/
def MkLe (F G : MkP → MkS → Option (MkS × Int × Int)) : Prop := ∀ p m, LeO (F p m) (G p m)
theorem mkSeqL_le {F G : MkP → MkS → Option (MkS × Int × Int)} (h : MkLe F G) : ∀ l m a b, LeO (mkSeqL F l m a b) (mkSeqL G l m a b)
 | [], m, a, b => LeO.refl _
 | p :: l, m, a, b => LeO.bind (h p m) fun _ => LeO.bind (LeO.refl _) fun _ => mkSeqL_le h l _ _ _
theorem mkAltL_le {F G : MkP → MkS → Option (MkS × Int × Int)} (h : MkLe F G) (s : Int) : ∀ l m e, LeO (mkAltL F s l m e) (mkAltL G s l m e)
 | [], m, e => LeO.refl _
 | p :: l, m, e => LeO.bind (h p m) fun _ => LeO.bind (LeO.refl _) fun _ => LeO.ite (mkAltL_le h s l _ _) (LeO.refl _)
theorem mkSeqF_le {F G : MkP → MkS → Option (MkS × Int × Int)} (h : MkLe F G) (l : List MkP) (m : MkS) : LeO (mkSeqF F l m) (mkSeqF G l m) := by
 cases l with
 | nil => exact LeO.refl _
 | cons p l => exact LeO.bind (h p m) fun _ => mkSeqL_le h l _ _ _
theorem mkAltF_le {F G : MkP → MkS → Option (MkS × Int × Int)} (h : MkLe F G) (l : List MkP) (m : MkS) : LeO (mkAltF F l m) (mkAltF G l m) := by
 unfold mkAltF
 exact LeO.ite (LeO.bind (mkAltL_le h _ l _ _) fun _ => LeO.refl _) (LeO.refl _)
theorem mkStarF_le {F G : MkP → MkS → Option (MkS × Int × Int)} (h : MkLe F G) (l : List MkP) (m : MkS) : LeO (mkStarF F l m) (mkStarF G l m) := by
 cases l with
 | nil => exact LeO.refl _
 | cons p l => exact LeO.ite (LeO.bind (h p _) fun _ => LeO.refl _) (LeO.refl _)
theorem mkPath_mono : ∀ k, MkLe (mkPath k) (mkPath (k + 1))
 | 0 => fun p m => LeO.none _
 | k + 1 => fun p m => by
  have ih := mkPath_mono k
  rw [mkPath, mkPath]
  exact LeO.ite (LeO.refl _) (LeO.ite (LeO.refl _) (LeO.ite (mkSeqF_le ih _ _) (LeO.ite (mkAltF_le ih _ _) (LeO.ite (mkStarF_le ih _ _) (LeO.ite (LeO.refl _) (LeO.refl _))))))
def prog_Compile.f (k : Nat) (a0_0 : Int) (l0_1 : List MkP) (l0_2 : List MkF) : Option (Int × Int × Int × List MkE × List MkF) := (mkPath k ⟨a0_0, l0_1, l0_2⟩ (0, [], [])).bind fun x => some (x.1.1, x.2.1, x.2.2, x.1.2.1, x.1.2.2)
theorem prog_Compile.mono : ∀ a0 a1 a2 k, LeO (prog_Compile.f k a0 a1 a2) (prog_Compile.f (k + 1) a0 a1 a2) := fun a0 a1 a2 k => LeO.bind (mkPath_mono k _ _) fun _ => LeO.refl _
theorem mk_al3 (w : World) (o1 o2 o3 : Obj) : (((w.alloc o1).alloc o2).alloc o3).heap[w.heap.size + 1 + 1]? = some o3 := by
 show (((w.heap.push o1).push o2).push o3)[w.heap.size + 1 + 1]? = some o3
 rw [Array.getElem?_push, if_pos (by simp)]
theorem mk_al2 (w : World) (o1 o2 o3 : Obj) : (((w.alloc o1).alloc o2).alloc o3).heap[w.heap.size + 1]? = some o2 := by
 show (((w.heap.push o1).push o2).push o3)[w.heap.size + 1]? = some o2
 rw [Array.getElem?_push, if_neg (by simp), Array.getElem?_push, if_pos (by simp)]
theorem mk_als (w : World) (o1 o2 o3 : Obj) : w.heap.size + 1 < (((w.alloc o1).alloc o2).alloc o3).heap.size := by
 show w.heap.size + 1 < (((w.heap.push o1).push o2).push o3).size
 simp
set_option maxHeartbeats 8000000 in
set_option maxRecDepth 100000 in
theorem prog_Compile.calls (k : Nat) (a0_0 : Int) (P0_1_ : Nat → Prop) (A0_1 : Option Addr) (c0_1 : Nat) (l0_1 : List MkP) (P0_2_ : Nat → Prop) (A0_2 : Option Addr) (c0_2 : Nat) (l0_2 : List MkF) (r1 : Int) (r2 : Int) (r3 : Int) (r4 : List MkE) (r5 : List MkF) (w : World) (hs0_1 : Kd.V k25 25 w w.heap.size (fun k_ => P0_1_ k_) (.slice A0_1 l0_1.length c0_1) l0_1) (hs0_2 : Kd.V k51 51 w w.heap.size (fun k_ => P0_2_ k_) (.slice A0_2 l0_2.length c0_2) l0_2) (h : prog_Compile.f k a0_0 l0_1 l0_2 = some (r1, r2, r3, r4, r5)) :
  Calls Try.prog 11 #[.agg #[.int .i64 a0_0, .slice A0_1 l0_1.length c0_1, .slice A0_2 l0_2.length c0_2]] w fun e w' => ∃ v3_ v4_ : Value, e = .returned (.agg #[.int .i64 r1, .int .i64 r2, .int .i64 r3, v3_, v4_]) ∧ Kd.R k56 56 w' w.heap.size (fun k_ => (w.heap.size ≤ k_)) v3_ r4 ∧ Kd.N k51 51 w' w.heap.size (fun k_ => ((P0_1_ k_ ∨ P0_2_ k_) ∨ w.heap.size ≤ k_) ∧ some k_ ≠ (v3_ : Value).ownBlock) v4_ r5 ∧ Below w.heap.size w w' := by
 obtain ⟨⟨m, a, b⟩, h1, h2⟩ := Option.bind_eq_some_iff.1 h
 injection h2 with h2
 injection h2 with e1 h2
 injection h2 with e2 h2
 injection h2 with e3 h2
 injection h2 with e4 e5
 subst e1 e2 e3 e4 e5; obtain ⟨A1, c1, q1, l1, g1⟩ := hs0_1; obtain ⟨A2, c2, q2, l2, g2⟩ := hs0_2
 injection q1 with q1a _ q1c
 injection q2 with q2a _ q2c
 subst q1a q1c q2a q2c; have hlen := (Kd.F_now g1).2.1; have hlen2 := (Kd.F_now g2).2.1; have G1 := Aside0.mk (Kd.F_mono (ok' := fun k => (P0_1_ k ∨ P0_2_ k) ∧ k < w.heap.size) (Kd.F_bound g1) (fun k hk => ⟨.inl hk.1, hk.2⟩)); have G2 := Aside0.mk (Kd.F_mono (ok' := fun k => (P0_1_ k ∨ P0_2_ k) ∧ k < w.heap.size) (Kd.F_bound g2) (fun k hk => ⟨.inr hk.1, hk.2⟩)); have H1 := Aside0.mk h1; clear h h1 g1 g2; have hu25 := Try.underlying25; have hu31 := Try.underlying31; have hu62 := Try.underlying62
 go_enter Try.func11, Try.ntmps11
 go_wp2_with fail
 have hS : MkSt w (fun k => (P0_1_ k ∨ P0_2_ k) ∧ k < w.heap.size) (((w.alloc (.cells #[.int .i64 a0_0, .slice A0_1 l0_1.length c0_1, .slice A0_2 l0_2.length c0_2] 25)).alloc (.cells #[.int .i64 0, .int .i64 0, .int .i64 0, .slice none 0 0, .slice none 0 0] 31)).alloc (.cells #[.int .i64 0, .int .i64 0, .int .i64 0, .slice none 0 0, .slice none 0 0] 62)) (w.heap.size + 1 + 1) 0 0 0 [] [] (.slice none 0 0) (.slice none 0 0) := by
  refine ⟨mk_al3 _ _ _ _, ?_, ?_, below_alloc (below_alloc (below_alloc (Below.refl _ _) _) _) _, by omega, fun k hk => hk.2⟩
  ·
   exact Kd.R_nil _ _ _ _ _
  exact Kd.N_nil _ _ _ _ _
 have hR : (((w.alloc (.cells #[.int .i64 a0_0, .slice A0_1 l0_1.length c0_1, .slice A0_2 l0_2.length c0_2] 25)).alloc (.cells #[.int .i64 0, .int .i64 0, .int .i64 0, .slice none 0 0, .slice none 0 0] 31)).alloc (.cells #[.int .i64 0, .int .i64 0, .int .i64 0, .slice none 0 0, .slice none 0 0] 62)).heap[w.heap.size + 1]? = some (.cells #[.int .i64 0, .int .i64 0, .int .i64 0, .slice none 0 0, .slice none 0 0] 31 (0, 0)) := mk_al2 _ _ _ _; refine (mk_path k _ (w.heap.size + 1 + 1) 0 0 _ _ ⟨a0_0, l0_1, l0_2⟩ (0, [], []) m a b A0_1 c0_1 A0_2 c0_2 hS l1 G1.out l2 G2.out H1.out).mono ?_
 rintro r w2 ⟨rfl, vE, vT, h2, h3⟩; obtain ⟨Ae, ce, rfl⟩ := Kd.R_slice h2.hE; obtain ⟨At, ct, rfl⟩ := Kd.N_slice h2.hT; have hrc := (h3.keep (w.heap.size + 1) (mk_als _ _ _ _) (by omega) (fun e => by cases e) (fun e => by cases e)).trans hR; obtain ⟨h4, h5⟩ := h2.put 1 (.int .i64 a) (n' := m.1) (s' := a) (e' := 0) rfl; obtain ⟨h6, h7⟩ := h4.put 2 (.int .i64 b) (n' := m.1) (s' := a) (e' := b) rfl; have hs : w.heap.size + 1 ≠ w.heap.size + 1 + 1 := by omega
 have hrc2 : ((w2.setCell ⟨w.heap.size + 1 + 1, 1, none⟩ (.int .i64 a)).setCell ⟨w.heap.size + 1 + 1, 2, none⟩ (.int .i64 b)).heap[w.heap.size + 1]? = _ := ((Below.heap_setCell _ ⟨w.heap.size + 1 + 1, 2, none⟩ _ (w.heap.size + 1) hs).trans (Below.heap_setCell _ ⟨w.heap.size + 1 + 1, 1, none⟩ _ (w.heap.size + 1) hs)).trans hrc; have hc := h2.cells; have f1 := hc.2.2.2.2.2 1; have c1 := hc.2.1; have c2 := h4.cells.2.2.1; have f2 := blk_frozen h4.blk 2; obtain ⟨d0, d1, d2, d3, d4, df⟩ := h6.cells; clear hc df; have x0 := blk_cell hrc2 0; have x1 := blk_cell hrc2 1; have x2 := blk_cell hrc2 2; have x3 := blk_cell hrc2 3; have x4 := blk_cell hrc2 4; have y0 := blk_frozen hrc2 0; have y1 := blk_frozen hrc2 1; have y2 := blk_frozen hrc2 2; have y3 := blk_frozen hrc2 3; have y4 := blk_frozen hrc2 4; have H6 := Aside0.mk h6; have HRC := Aside0.mk hrc2; clear h2 h3 h4 h5 h6 h7 hrc hrc2 hR hS
 go_wp2_with fail
 obtain ⟨W2, hW2⟩ : ∃ W2, (w2.setCell ⟨w.heap.size + 1 + 1, 1, none⟩ (.int .i64 a)).setCell ⟨w.heap.size + 1 + 1, 2, none⟩ (.int .i64 b) = W2 := ⟨_, rfl⟩; rw [hW2] at H6 HRC ⊢; clear hW2 d0 d1 d2 d3 d4 x0 x1 x2 x3 x4 y0 y1 y2 y3 y4 f1 f2 c1 c2; have h6 := H6.out; have hb1 := blk_put HRC.out 0 (.int .i64 m.1) rfl; have hb2 := blk_put hb1 1 (.int .i64 a) rfl; have hb3 := blk_put hb2 2 (.int .i64 b) rfl; have hb4 := blk_put hb3 3 (.slice Ae m.2.1.length ce) rfl; have hb5 := blk_put hb4 4 (.slice At m.2.2.length ct) rfl; have hnE := Kd.R_ne h6.hE HRC.out (by decide); have hnT := Kd.N_ne h6.hT HRC.out (by decide); have fE : ∀ k, some k = (Value.slice Ae m.2.1.length ce).ownBlock → k ≠ w.heap.size + 1 := fun k hk e => hnE (e ▸ hk)
 have fT : ∀ k, (((P0_1_ k ∨ P0_2_ k) ∧ k < w.heap.size) ∨ some k = (Value.slice At m.2.2.length ct).ownBlock) → k ≠ w.heap.size + 1 := fun k hk e => by
  rcases hk with hk | hk
  rotate_left
  ·
   exact hnT (e ▸ hk)
  have := hk.2
  omega
 refine bodyPost_ret (results_cell_row rfl _ _ (w.heap.size + 1) 31 #[.int .i64 m.1, .int .i64 a, .int .i64 b, .slice Ae m.2.1.length ce, .slice At m.2.2.length ct] (0, 0) _ rfl hb5 hu31 rfl (by kernel_rfl)) rfl ?_
 refine ⟨_, _, rfl, Kd.R_mono (Kd.R_far (p := ⟨w.heap.size + 1, 4, none⟩) (Kd.R_far (p := ⟨w.heap.size + 1, 3, none⟩) (Kd.R_far (p := ⟨w.heap.size + 1, 2, none⟩) (Kd.R_far (p := ⟨w.heap.size + 1, 1, none⟩) (Kd.R_far (p := ⟨w.heap.size + 1, 0, none⟩) h6.hE fE _) fE _) fE _) fE _) fE _) (fun k hk => Kd.R_base h6.hE k hk.symm),
  Kd.N_mono (Kd.N_far (p := ⟨w.heap.size + 1, 4, none⟩) (Kd.N_far (p := ⟨w.heap.size + 1, 3, none⟩) (Kd.N_far (p := ⟨w.heap.size + 1, 2, none⟩) (Kd.N_far (p := ⟨w.heap.size + 1, 1, none⟩) (Kd.N_far (p := ⟨w.heap.size + 1, 0, none⟩) h6.hT fT _) fT _) fT _) fT _) fT _) (fun k hk => ?_),
  ((((h6.bel.setCell (p := ⟨w.heap.size + 1, 0, none⟩) (by simp) _).setCell (p := ⟨w.heap.size + 1, 1, none⟩) (by simp) _).setCell (p := ⟨w.heap.size + 1, 2, none⟩) (by simp) _).setCell (p := ⟨w.heap.size + 1, 3, none⟩) (by simp) _).setCell (p := ⟨w.heap.size + 1, 4, none⟩) (by simp) _⟩
 rcases hk with hk | hk
 rotate_left
 ·
  exact ⟨.inr (Kd.N_base h6.hT k hk.symm), fun e => h6.neET k e hk⟩
 refine ⟨?_, fun e => ?_⟩
 ·
  exact .inl hk.1
 have := Kd.R_base h6.hE k e.symm; have := hk.2
 omega
end Go.Proofs.Ytmbbjdkcanoklaa.X
