/- Conversions between strings and bytes or runes, in the print's form of a call: what is made is a row; what it was is a list. -/
import Derived.Test.YtmbbjdkcanoklaaWWords
import Derived.Test.YtmbbjdkcanoklaaWLast
import Derived.Test.YtmbbjdkcanoklaaWMore
import Derived.Test.YtmbbjdkcanoklaaWFoot
import Derived.Laws.Cover4
namespace Go.Proofs.YtmbbjdkcanoklaaW.XConv
open Go.RowKit Go.Proofs.YtmbbjdkcanoklaaW.PrintWords Go.Proofs.YtmbbjdkcanoklaaW.PrintLast
set_option linter.unusedVariables false
/-- A conversion that comes to its end, as a call does. -/
def ConvCalls (P : Program) (src dst : TypeId) (v : Value) (w : World) (post : Ending → World → Prop) : Prop := ∃ u w1, (convert src dst v).run P w = .ok u w1 ∧ post (.returned u) w1
theorem ConvCalls.mono {P : Program} {src dst : TypeId} {v : Value} {w : World} {post post' : Ending → World → Prop} (h : ConvCalls P src dst v w post) (hp : ∀ e w', post e w' → post' e w') : ConvCalls P src dst v w post' := by
  obtain ⟨u, w1, hr, hq⟩ := h
  exact ⟨u, w1, hr, hp _ _ hq⟩
section
variable {P : Program} {ops : Array Oper} {Q : Exit → Act → World → Prop}
theorem goes_conv {rest : List Oper} {oi : Oper} {a : Act} {w : World} {N : Option Tmp} (hd : oi.dst = N) (hg : oi.guard = none) {src dst : TypeId} {x : Operand} {v : Value}
    (hop : oi.op = .convert src dst x) (hv : a.eval x = v)
    (h : ConvCalls P src dst v w fun e w' => ∃ u, e = .returned u ∧ wpList P ops Q rest (a.put N u) w') : wpList P ops Q (oi :: rest) a w := by
  obtain ⟨u, w1, hr, u', he, hw⟩ := h
  injection he with he
  subst he
  subst hd
  refine Kd.event_run (v := u) (w1 := w1) hg ?_ hw
  unfold execOp
  simp only [hop, hv]
  show (Sem.run P (do let v ← convert src dst v; pure (Next.value v)) w) = _
  simp [hr, Result.andThen]
end
/-- The runes of a text, from a place on. -/
def runesAux (s : ByteArray) : Nat → Nat → List Int
  | 0, _ => []
  | b + 1, i => if i < s.size then ((Utf8.decode s i).1 : Int) :: runesAux s b (i + (Utf8.decode s i).2) else []
def runesOf (s : ByteArray) : List Int := runesAux s s.size 0
theorem runesFrom_list (s : ByteArray) : ∀ (b i : Nat) (acc : Array Value), (Conv.runesFrom s b i acc).toList = acc.toList ++ nums .i32 (runesAux s b i) := by
  intro b
  induction b with
  | zero => intro i acc; simp [Conv.runesFrom, runesAux, nums]
  | succ b ih =>
    intro i acc
    unfold Conv.runesFrom runesAux
    split
    · rename_i h
      simp only [ih]
      simp [nums]
    · simp [nums]
theorem runesFrom_size (s : ByteArray) : (Conv.runesFrom s s.size 0 #[]).size = (runesOf s).length := by
  have := congrArg List.length (runesFrom_list s s.size 0 #[])
  simpa [nums, runesOf] using this
theorem runesAux_length (s : ByteArray) : ∀ b i, (runesAux s b i).length ≤ b := by
  intro b
  induction b with
  | zero => intro i; simp [runesAux]
  | succ b ih =>
    intro i
    unfold runesAux
    split
    · have := ih (i + (Utf8.decode s i).2)
      simp; omega
    · simp
def strOfRunes (xs : List Int) : ByteArray := runesBytes xs
def convRunes.f (s : ByteArray) : Option (List Int) := if s.size ≤ 70368744177664 then some (runesOf s) else none
theorem convRunes.calls {P : Program} {src dst e : TypeId} (hs : P.underlying src = some .string) (hd : P.underlying dst = some (.slice e)) (he : P.underlying e = some (.int .i32)) (s : ByteArray) (r : List Int) (w : World) (h : convRunes.f s = some r) :
    ConvCalls P src dst (.string s) w fun en w' => ∃ v0_ : Value, en = .returned v0_ ∧ Kd.R (Kd.int .i32) e w' w.heap.size (fun _ => True) v0_ r ∧ Below w.heap.size w w' := by
  unfold convRunes.f at h
  split at h
  · rename_i hle
    obtain rfl := Option.some.inj h
    have hl : (runesOf s).length ≤ s.size := runesAux_length s s.size 0
    have hz := runesFrom_size s
    refine ⟨_, _, run_runes_of_string w src dst e s hs hd he (by omega), _, rfl, ?_, ?_⟩
    · refine Kd.R_of_own (e := e) (enc := Value.int .i32) (h1 := fun _ => rfl) ?_ (fun _ _ => trivial)
      rw [hz]
      refine ⟨by simp [encs], .inr ⟨w.heap.size, _, _, rfl, Nat.le_refl _, heap_alloc_new _ _, ?_, ?_, ?_, ?_⟩⟩
      · exact grownCap_ge w _ 0 e
      · exact grownCap_le_maxLen w _ 0 e (by unfold maxLen; omega)
      · have := grownCap_ge w (runesOf s).length 0 e
        rw [Array.size_append, Array.size_replicate, hz]
        omega
      · rw [Array.toList_append, runesFrom_list]
        simp [encs, nums, runesOf]
    · exact (below_drew (Below.refl _ _)).alloc (Nat.le_refl _) _
  · cases h
def convBytes.f (s : ByteArray) : Option (List Int) := if s.size ≤ 70368744177664 then some (bytesOf s) else none
theorem convBytes.calls {P : Program} {src dst e : TypeId} (hs : P.underlying src = some .string) (hd : P.underlying dst = some (.slice e)) (he : P.underlying e = some (.int .u8)) (s : ByteArray) (r : List Int) (w : World) (h : convBytes.f s = some r) :
    ConvCalls P src dst (.string s) w fun en w' => ∃ v0_ : Value, en = .returned v0_ ∧ Kd.V (Kd.int .u8) e w' w.heap.size (fun k_ => w.heap.size ≤ k_) v0_ r ∧ Below w.heap.size w w' := by
  unfold convBytes.f at h
  split at h
  · rename_i hle
    obtain rfl := Option.some.inj h
    have hl : (bytesOf s).length = s.size := bytesOf_length s
    refine ⟨_, _, Lib.run_convert_string_bytes w src dst e s hs hd he, _, rfl, ?_, bytes_below (Below.refl _ _) (Nat.le_refl _) e s⟩
    rw [← hl]
    refine Kd.V_mk (by rw [hl]; exact grownCap_ge w _ 0 e) ?_
    have hC : (Kd.int .u8).C (Lib.bytesWorld w e s) (some ⟨w.heap.size, 0, none⟩) (bytesOf s).length (bytesOf s) := by
      have := bytes_reads w e s (by omega)
      rw [← hl] at this
      exact Kd.C_of_reads (d := (0 : Int)) (h1 := fun _ => rfl) this
    intro W' hW
    have h1 : W'.heap[w.heap.size]? = (Lib.bytesWorld w e s).heap[w.heap.size]? := hW _ (Nat.le_refl _) (by rw [Lib.bytesWorld_size]; omega)
    have hr := Kd.reads_of_C (d := (0 : Int)) (enc := Value.int .u8) (h1 := fun _ => rfl) hC
    refine Kd.C_of_reads (d := (0 : Int)) (h1 := fun _ => rfl) ⟨hr.1, hr.2.1, fun hp => ?_⟩
    obtain ⟨ad, ha, hc⟩ := hr.2.2 hp
    injection ha with ha
    subst ha
    refine ⟨_, rfl, fun j hj => ?_⟩
    have := hc j hj
    rw [← this]
    simp only [add_plain, World.cell?, h1]
  · cases h
/-- string(runes) -/
theorem runes_of_C {P : Program} {w : World} {src dst e : TypeId} {A : Option Addr} {n c : Nat} {xs : List Int} (hs : P.underlying src = some (.slice e)) (he : P.underlying e = some (.int .i32)) (hd : P.underlying dst = some .string)
    (h : (Kd.int .i32).C w A n xs) : (convert src dst (.slice A n c)).run P w = .ok (.string (strOfRunes xs)) w := by
  have h := Kd.reads_of_C (enc := Value.int .i32) (d := (0 : Int)) (h1 := fun _ => rfl) h
  have hn : xs.length = n := h.1
  rcases A with _ | ad
  · have h0 : n = 0 := by
      rcases Nat.eq_zero_or_pos n with h0 | h0
      · exact h0
      · obtain ⟨ad, h', _⟩ := h.2.2 h0
        cases h'
    subst h0
    obtain rfl : xs = [] := List.eq_nil_of_length_eq_zero hn
    exact run_convert_runes_nil w src dst e 0 c hs he hd
  · have hl : (loadCells ad n).run P w = .ok (xs.map (Value.int .i32)).toArray w := by
      have := run_loadCells_list (P := P) w ad (xs.map (Value.int .i32)) (fun j v hj => by
        have hjl : j < xs.length := by
          rcases Nat.lt_or_ge j xs.length with h' | h'
          · exact h'
          · rw [List.getElem?_eq_none (by rw [List.length_map]; exact h')] at hj
            cases hj
        obtain ⟨ad', he', hc⟩ := h.2.2 (by omega)
        injection he' with he'
        subst he'
        rw [hc j (by omega)]
        rw [List.getElem?_map, List.getElem?_eq_getElem hjl] at hj
        simp at hj
        subst hj
        simp [List.getD_eq_getElem?_getD, List.getElem?_eq_getElem hjl])
      simpa [hn] using this
    rw [run_convert_runes_string w src dst e _ n c hs he hd]
    exact run_runesToString w ad n c xs hl
theorem isE_ne (l : List UInt8) : (l != ([] : List UInt8)) = !l.isEmpty := by cases l <;> rfl
theorem isE_eq (l : List UInt8) : (l == ([] : List UInt8)) = l.isEmpty := by cases l <;> rfl
end Go.Proofs.YtmbbjdkcanoklaaW.XConv
