/- Yours: ProgShapes. -/
import Derived.Test.YtmbbjdkcanoklaaX3
import Derived.Test.YtmbbjdkcanoklaaX5
import Derived.Test.YtmbbjdkcanoklaaX30
import Derived.Test.YtmbbjdkcanoklaaMpath
set_option linter.unusedVariables false
set_option linter.unusedSimpArgs false
set_option linter.unusedSectionVars false
namespace Go.Proofs.Ytmbbjdkcanoklaa.Pure
open Go.RowKit Go.Proofs.YtmbbjdkcanoklaaW.PrintWords Go.Proofs.YtmbbjdkcanoklaaW.PrintLast Go.Proofs.YtmbbjdkcanoklaaW.XConv Go.Proofs.Ytmbbjdkcanoklaa.E Go.Proofs.Ytmbbjdkcanoklaa.X Go.Proofs.Ytmbbjdkcanoklaa.Pa Go.Proofs.Ytmbbjdkcanoklaa.Pr
theorem rdE {l : List MkE} {i : Nat} (h : i < l.length) : rd_T56 l (i : Int) = l[i] := by
  simp [rd_T56, h]
def askedL (E : List MkE) (n : Nat) : List Int := (List.range n).map fun (j : Nat) => ((E.countP (asks (j : Int)) : Nat) : Int)
theorem asked_len (E : List MkE) (n : Nat) : (askedL E n).length = n := by simp [askedL]
theorem asked_nil (n : Nat) : askedL [] n = List.replicate n 0 := by
  apply List.ext_getElem
  · simp [askedL]
  · intro i h1 h2
    simp [askedL]
theorem asked_at (E : List MkE) {n j : Nat} (h : j < n) : rd (askedL E n) (j : Int) = ((E.countP (asks (j : Int)) : Nat) : Int) := by
  rw [rd_at _ _ (by rw [asked_len]; exact h)]
  simp [askedL]
theorem asked_no (E : List MkE) (e : MkE) (n : Nat) (h : e.f2 ≠ 3) : askedL (E ++ [e]) n = askedL E n := by
  unfold askedL
  refine List.map_congr_left fun j _ => ?_
  rw [List.countP_append, List.countP_singleton, if_neg (by unfold asks; simp [h])]
  simp
theorem asked_yes (E : List MkE) (e : MkE) (n j : Nat) (h : e.f2 = 3) (hj : e.f3 = j) (hn : j < n) (hE : E.length ≤ 1000) : askedL (E ++ [e]) n = (askedL E n).set j (wrap64 (rd (askedL E n) j + 1)) := by
  have hc : E.countP (asks (j : Int)) ≤ E.length := List.countP_le_length
  rw [asked_at E hn, w64 (by omega) (by omega)]
  apply List.ext_getElem
  · simp [askedL]
  · intro i h1 h2
    rw [List.getElem_set]
    by_cases c : j = i
    · subst c
      simp [askedL, List.countP_append, asks, h, hj]
    · rw [if_neg c]
      have : ¬ (j : Int) = i := by omega
      simp [askedL, List.countP_append, asks, h, hj, this]
section
variable {m : MkS} (h : MkI m) (h2 : m.2.1.length ≤ 1000) (h3 : m.2.2.length ≤ 1000) {a b : Int} (ha : 0 ≤ a ∧ a < m.1) (hb : 0 ≤ b ∧ b < m.1)
include h h2 h3 ha hb
theorem shapes_l1 : ∀ c i, m.2.2.length - i ≤ c → i ≤ m.2.2.length → Tot (fun k => oriellaw17_ProgShapes.l1 k (askedL m.2.1 m.2.2.length) (i : Nat) m.1 a b m.2.1 m.2.2) (fun r => r = true) := by
  have hl := asked_len m.2.1 m.2.2.length
  have hend : Tot (fun _ => if a ≥ 0 then (if a < m.1 then (if b ≥ 0 then (some (decide (b < m.1))) else (some false)) else (some false)) else (some false)) (fun r => r = true) := by
    refine Tot.ite (fun _ => ?_) (fun h => by omega)
    refine Tot.ite (fun _ => ?_) (fun h => by omega)
    refine Tot.ite (fun _ => ?_) (fun h => by omega)
    exact Tot.ret (decide_eq_true hb.2)
  intro c
  induction c with
  | zero =>
    intro i hc hi
    refine Tot.succ (fun k => by rw [oriellaw17_ProgShapes.l1, hl]) ?_
    exact Tot.ite (fun h => by omega) (fun _ => hend)
  | succ c ih =>
    intro i hc hi
    refine Tot.succ (fun k => by rw [oriellaw17_ProgShapes.l1, hl]) ?_
    refine Tot.ite (fun h4 => ?_) (fun _ => hend)
    refine Tot.ite (fun _ => ?_) (fun h => by omega)
    have hi2 : i < m.2.2.length := by omega
    rw [asked_at _ hi2, h.ask i hi2, w64 (by omega) (by omega)]
    exact Tot.ite (fun _ => ih (i + 1) (by omega) (by omega)) (fun h => absurd rfl h)
set_option maxHeartbeats 4000000 in
theorem shapes_l0 : ∀ c i, m.2.1.length - i ≤ c → i ≤ m.2.1.length → Tot (fun k => oriellaw17_ProgShapes.l0 k (askedL (m.2.1.take i) m.2.2.length) (i : Nat) m.1 a b m.2.1 m.2.2) (fun r => r = true) := by
  have hend : ∀ i, ¬ i < m.2.1.length → Tot (fun k => oriellaw17_ProgShapes.l1 k (askedL (m.2.1.take i) m.2.2.length) 0 m.1 a b m.2.1 m.2.2) (fun r => r = true) := by
    intro i hi
    rw [List.take_of_length_le (by omega)]
    exact shapes_l1 h h2 h3 ha hb m.2.2.length 0 (by omega) (by omega)
  intro c
  induction c with
  | zero =>
    intro i hc hi
    refine Tot.succ (fun k => by rw [oriellaw17_ProgShapes.l0]) ?_
    exact Tot.ite (fun h => by omega) (fun _ => hend i (by omega))
  | succ c ih =>
    intro i hc hi
    refine Tot.succ (fun k => by rw [oriellaw17_ProgShapes.l0]) ?_
    refine Tot.ite (fun h4 => ?_) (fun _ => hend i (by omega))
    refine Tot.ite (fun _ => ?_) (fun h => by omega)
    have hi2 : i < m.2.1.length := by omega
    rw [rdE hi2]
    obtain ⟨e, he⟩ : ∃ e, m.2.1[i] = e := ⟨_, rfl⟩
    have hed := h.ed e (he ▸ List.getElem_mem hi2)
    have htk : m.2.1.take (i + 1) = m.2.1.take i ++ [e] := by rw [← he]; exact List.take_succ_eq_append_getElem hi2
    rw [he]
    have hnx := ih (i + 1) (by omega) (by omega)
    rw [htk] at hnx
    refine Tot.ite (fun h => by omega) (fun _ => ?_)
    refine Tot.ite (fun h => by omega) (fun _ => ?_)
    refine Tot.ite (fun h => by omega) (fun _ => ?_)
    refine Tot.ite (fun h => by omega) (fun _ => ?_)
    refine Tot.ite (fun h => by omega) (fun _ => ?_)
    refine Tot.succ (fun k => by rw [oriellaw17_ProgShapes.j2]) ?_
    refine Tot.ite (fun h => by have := of_decide_eq_true h; omega) (fun _ => ?_)
    have e1 : wrap64 ((i : Int) + 1) = ((i + 1 : Nat) : Int) := w64 (by omega) (by omega)
    rw [asked_len, e1]
    refine Tot.ite (fun h5 => ?_) (fun h5 => ?_)
    · have h6 := hed.2.2.2.2.2.2 h5
      obtain ⟨j, hj⟩ : ∃ j : Nat, e.f3 = j := ⟨e.f3.toNat, by omega⟩
      have hj2 : j < m.2.2.length := by
        have := h6.2
        rw [hj] at this
        exact Int.ofNat_lt.mp this
      have hl2 : (m.2.1.take i).length ≤ 1000 := Nat.le_trans (List.length_take_le' i m.2.1) h2
      rw [asked_yes (m.2.1.take i) e m.2.2.length j h5 hj hj2 hl2] at hnx
      refine Tot.ite (fun h => by omega) (fun _ => ?_)
      refine Tot.ite (fun h => by omega) (fun _ => ?_)
      refine Tot.ite (fun _ => ?_) (fun h => by omega)
      refine Tot.ite (fun _ => ?_) (fun h => by omega)
      rw [hj, Int.toNat_natCast]
      exact hnx
    · rw [asked_no _ e _ h5] at hnx
      exact hnx
end
theorem awake_ev : Evn (fun k => oriellaw17_awake.f k) true := Evn.of_mono (k := 60) oriellaw17_awake.mono (by decide +kernel)
theorem ProgShapes : oriellaw17_ProgShapes.Pure := by
  intro x hx
  have main : Tot (fun k => oriellaw17_ProgShapes.f k x.f0 x.f1 x.f2) (fun r => r = true) := by
    refine Tot.congr (fun k => by rw [oriellaw17_ProgShapes.f]) ?_
    refine Tot.bind (Tot.of awake_ev (P := fun t => t = true) rfl) ?_
    rintro t rfl
    refine Tot.ite (fun _ => ?_) (fun h => absurd rfl h)
    refine Tot.bind (right_tot x hx) (fun t ht => ?_)
    refine Tot.succ (fun k => by rw [oriellaw17_ProgShapes.j0]) ?_
    refine Tot.ite (fun _ => ?_) (fun hn => ?_)
    · refine Tot.bind (Tot.of awake_ev (P := fun t => t = true) rfl) ?_
      rintro t rfl
      exact Tot.ret rfl
    · have hr : t = true := by simpa using hn
      obtain ⟨h1, h2⟩ := ht hr
      obtain ⟨m, a, b, e, hi, k1, k2, k3, ha, hb⟩ := compile_ok x h1 (h2 16)
      refine Tot.bind (Tot.of e (P := fun z => z = (m.1, a, b, m.2.1, m.2.2)) rfl) ?_
      rintro z rfl
      refine Tot.ite (fun _ => ?_) (fun h => by simp only at h; omega)
      refine Tot.ite (fun _ => ?_) (fun h => by simp only at h; omega)
      have := shapes_l0 hi k2 k3 ha hb m.2.1.length 0 (by omega) (by omega)
      rw [List.take_zero, asked_nil] at this
      simp only [Int.toNat_natCast]
      exact this
  obtain ⟨r, rfl, h⟩ := main.get
  exact h.get
end Go.Proofs.Ytmbbjdkcanoklaa.Pure
