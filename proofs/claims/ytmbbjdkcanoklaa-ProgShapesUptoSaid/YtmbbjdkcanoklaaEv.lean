/- Answers that hold from some number of rounds on. -/
import Derived.Test.YtmbbjdkcanoklaaWWords
import Derived.Laws.BitsLemmas
namespace Go.Proofs.Ytmbbjdkcanoklaa.E
open Go.RowKit Go.Proofs.YtmbbjdkcanoklaaW.PrintWords
/-- from some number of rounds on, g tells r -/
def Evn {α : Type} (g : Nat → Option α) (r : α) : Prop := ∃ K, ∀ k, K ≤ k → g k = some r
variable {α β : Type} {g h : Nat → Option α} {r : α}
theorem Evn.ret (r : α) : Evn (fun _ => some r) r := ⟨0, fun _ _ => rfl⟩
theorem Evn.congr (e : ∀ k, g k = h k) (H : Evn h r) : Evn g r := by
  obtain ⟨K, hk⟩ := H
  exact ⟨K, fun k hle => (e k).trans (hk k hle)⟩
theorem Evn.succ (e : ∀ k, g (k + 1) = h k) (H : Evn h r) : Evn g r := by
  obtain ⟨K, hk⟩ := H
  refine ⟨K + 1, fun k hle => ?_⟩
  obtain ⟨m, rfl⟩ : ∃ m, k = m + 1 := ⟨k - 1, by omega⟩
  rw [e m]; exact hk m (by omega)
theorem Evn.bind {f : Nat → Option β} {F : Nat → β → Option α} {b : β} (H : Evn f b) (H2 : Evn (fun k => F k b) r) : Evn (fun k => (f k).bind (F k)) r := by
  obtain ⟨K, hk⟩ := H
  obtain ⟨K2, hk2⟩ := H2
  exact ⟨max K K2, fun k hle => by show (f k).bind (F k) = _; rw [hk k (by omega)]; exact hk2 k (by omega)⟩
theorem Evn.of_mono {k : Nat} (m : ∀ k, LeO (g k) (g (k + 1))) (hk : g k = .some r) : Evn g r := by
  refine ⟨k, fun n hn => ?_⟩
  obtain ⟨d, rfl⟩ : ∃ d, n = k + d := ⟨n - k, by omega⟩
  clear hn
  induction d with
  | zero => exact hk
  | succ d ih => exact m (k + d) r ih
theorem Evn.get (H : Evn g r) : ∃ k, g k = .some r := by
  obtain ⟨K, hk⟩ := H
  exact ⟨K, hk K (Nat.le_refl _)⟩
theorem Evn.iteT {p : Prop} [Decidable p] {a b : Nat → Option α} (hp : p) (H : Evn a r) : Evn (fun k => if p then a k else b k) r := by
  simp only [if_pos hp]; exact H
theorem Evn.iteF {p : Prop} [Decidable p] {a b : Nat → Option α} (hp : ¬ p) (H : Evn b r) : Evn (fun k => if p then a k else b k) r := by
  simp only [if_neg hp]; exact H
theorem Evn.toT {p : Prop} [Decidable p] {r r2 : α} (hp : p) (H : Evn g r) : Evn g (if p then r else r2) := by rw [if_pos hp]; exact H
theorem Evn.toF {p : Prop} [Decidable p] {r r2 : α} (hp : ¬ p) (H : Evn g r) : Evn g (if p then r2 else r) := by rw [if_neg hp]; exact H
theorem Evn.uniq {r2 : α} (H : Evn g r) (H2 : Evn g r2) : r = r2 := by
  obtain ⟨K, hk⟩ := H
  obtain ⟨K2, hk2⟩ := H2
  have a := hk (max K K2) (by omega)
  have b := hk2 (max K K2) (by omega)
  rw [a] at b
  exact Option.some.inj b
/-- small numbers are what they are -/
theorem w64 {x : Int} (h0 : -9223372036854775808 ≤ x) (h1 : x ≤ 9223372036854775807) : wrap64 x = x := by unfold wrap64; omega
theorem w32 {x : Int} (h0 : -2147483648 ≤ x) (h1 : x ≤ 2147483647) : wrap32 x = x := by unfold wrap32; omega
theorem rd_at (l : List Int) (i : Nat) (h : i < l.length) : rd l i = l[i] := by
  unfold rd
  simp [List.getD_eq_getElem?_getD, List.getElem?_eq_getElem h]
/-- what fits its kind -/
theorem wf_bd {k : IntKind} {x : Int} (h : (Lit.int k x).wf = true) : k.min ≤ x ∧ x ≤ k.max := by
  simp only [Lit.wf, Bool.and_eq_true, decide_eq_true_eq] at h
  exact h
theorem wf_bd_i32 {x : Int} (h : (Lit.int .i32 x).wf = true) : -2147483648 ≤ x ∧ x ≤ 2147483647 := wf_bd h
theorem wf_bd_i64 {x : Int} (h : (Lit.int .i64 x).wf = true) : -9223372036854775808 ≤ x ∧ x ≤ 9223372036854775807 := wf_bd h
theorem wf_bd_u8 {x : Int} (h : (Lit.int .u8 x).wf = true) : 0 ≤ x ∧ x ≤ 255 := wf_bd h
end Go.Proofs.Ytmbbjdkcanoklaa.E
