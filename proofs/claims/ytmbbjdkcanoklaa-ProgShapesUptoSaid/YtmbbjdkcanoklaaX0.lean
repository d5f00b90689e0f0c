/- Printed by a program of this session (xprint) out of the kit's print, with functions proved by hand. -/
import Derived.Test.YtmbbjdkcanoklaaProg
import Derived.Below
import Derived.Deep.Draws
import Derived.Deep.AppendLies
import Derived.Maps.AppendAt
import Derived.OwnWalk
import Derived.Laws.BytesArg
import Derived.Laws.MakeOwn
import Derived.Laws.OwnMore
import Derived.Deep.OwnRows
import Derived.Tactics
import Derived.Lib.ConvBytes
import Derived.Laws.Slices
import Derived.WalkKit
import Derived.KernelRfl
import Derived.RowKit3
import Derived.Deep.LoopGhost
import Derived.Deep.QuietTactic
import Derived.BigQuiet
import Derived.WideLaws
import Derived.Deep.DeepCutAuto
import Derived.Deep.CutBlock
import Derived.Deep.RegionHeld3
import Derived.Laws.Rows
import Derived.Lib.AppendStr
import Derived.ArgAppend
import Derived.Laws.IdiomCopy
import Derived.OrdersHeld
import Derived.Laws.BitsLemmas
import Derived.RowKit
import Derived.Test.YtmbbjdkcanoklaaWWords
import Derived.Test.YtmbbjdkcanoklaaWLast
import Derived.Test.YtmbbjdkcanoklaaWTab
import Derived.Test.YtmbbjdkcanoklaaWFour
import Derived.Test.YtmbbjdkcanoklaaWQPut
import Derived.Test.YtmbbjdkcanoklaaWApart
import Derived.Test.YtmbbjdkcanoklaaWArr
import Derived.Test.YtmbbjdkcanoklaaWZeros
import Derived.Test.YtmbbjdkcanoklaaWFoot
import Derived.Test.YtmbbjdkcanoklaaWKept
import Derived.Test.YtmbbjdkcanoklaaWShare
import Derived.Test.YtmbbjdkcanoklaaWN
import Derived.Test.YtmbbjdkcanoklaaWFootNe
import Derived.Test.YtmbbjdkcanoklaaWAt
import Derived.Test.YtmbbjdkcanoklaaWEqStruct
import Derived.Test.YtmbbjdkcanoklaaWRepsOne
import Derived.Test.YtmbbjdkcanoklaaWInv
import Derived.Test.YtmbbjdkcanoklaaWInvWords
import Derived.Test.YtmbbjdkcanoklaaWGuard
import Derived.Test.YtmbbjdkcanoklaaWNEv
import Derived.Test.YtmbbjdkcanoklaaWMore
import Derived.Test.YtmbbjdkcanoklaaConv
import Derived.Test.YtmbbjdkcanoklaaUtfA
import Derived.Test.YtmbbjdkcanoklaaIter
import Derived.Test.YtmbbjdkcanoklaaNest
import Derived.Test.YtmbbjdkcanoklaaFun
namespace Go.Proofs.Ytmbbjdkcanoklaa.X
open Go.RowKit Go.Proofs.YtmbbjdkcanoklaaW.PrintWords Go.Proofs.YtmbbjdkcanoklaaW.PrintLast Go.Proofs.YtmbbjdkcanoklaaW.PrintMore Go.Proofs.YtmbbjdkcanoklaaW.XConv
attribute [local go_sem] max2_int min2_int max_two min_two max_three min_three max_four min_four   -- for this text's walks alone
set_option linter.unusedVariables false
set_option linter.unusedSimpArgs false



def errW : Option Int → Value
 | none => .nilIface
 | some c => .iface 0 (.int .i64 c)
theorem errW_none : errW none = .nilIface := rfl
theorem errW_some (c : Int) : errW (some c) = .iface 0 (.int .i64 c) := rfl

theorem info3 : (Try.prog.info? 3).map (fun i => (i.zero, i.size, i.bytes)) = some (some (.int .i64 0), 1, 8) := by kernel_rfl
theorem info4 : (Try.prog.info? 4).map (fun i => (i.zero, i.size, i.bytes)) = some (some (.bool false), 1, 1) := by kernel_rfl
theorem info5 : (Try.prog.info? 5).map (fun i => (i.zero, i.size, i.bytes)) = some (some (.int .u8 0), 1, 1) := by kernel_rfl
theorem info21 : (Try.prog.info? 21).map (fun i => (i.zero, i.size, i.bytes)) = some (some (.int .i32 0), 1, 4) := by kernel_rfl
theorem info25 : (Try.prog.info? 25).map (fun i => (i.zero, i.size, i.bytes)) = some (some (.agg #[(.int .i64 0), (.slice none 0 0), (.slice none 0 0)]), 3, 56) := by kernel_rfl
theorem info51 : (Try.prog.info? 51).map (fun i => (i.zero, i.size, i.bytes)) = some (some (.agg #[(.int .i64 0), (.string ⟨#[]⟩), (.string ⟨#[]⟩), (.string ⟨#[]⟩), (.slice none 0 0), (.slice none 0 0)]), 6, 104) := by kernel_rfl
theorem info56 : (Try.prog.info? 56).map (fun i => (i.zero, i.size, i.bytes)) = some (some (.agg #[(.int .i64 0), (.int .i64 0), (.int .i64 0), (.int .i64 0)]), 4, 32) := by kernel_rfl
-- the values' own types
/-! #### struct type 56 -/
structure S56 where
 f0 : Int
 f1 : Int
 f2 : Int
 f3 : Int
def z56 : S56 := ⟨(0 : Int), (0 : Int), (0 : Int), (0 : Int)⟩
def k56 : Kd S56 := Kd.iso (Kd.pair (Kd.int .i64) (Kd.pair (Kd.int .i64) (Kd.pair (Kd.int .i64) (Kd.int .i64)))) (fun x : S56 => (x.f0, x.f1, x.f2, x.f3))
theorem k56_heap : Kd.Heap k56 := Kd.heap_iso _ (Kd.heap_pair (Kd.heap_int .i64) (Kd.heap_pair (Kd.heap_int .i64) (Kd.heap_pair (Kd.heap_int .i64) (Kd.heap_int .i64))))
theorem k56_open {w : World} {x : S56} {cs : List Value} (h : k56.K w x cs) : cs = [.int .i64 x.f0, .int .i64 x.f1, .int .i64 x.f2, .int .i64 x.f3] := by
 obtain ⟨_, _, rfl, rfl, ⟨_, _, rfl, rfl, ⟨_, _, rfl, rfl, rfl⟩⟩⟩ := h
 exact rfl
theorem k56_openM {w : World} {base : Nat} {ok : Nat → Prop} {x : S56} {cs : List Value} (h : k56.M w base ok x cs) : cs = [.int .i64 x.f0, .int .i64 x.f1, .int .i64 x.f2, .int .i64 x.f3] := by
 obtain ⟨_, _, rfl, rfl, ⟨_, _, rfl, rfl, ⟨_, _, rfl, rfl, rfl⟩⟩⟩ := h
 exact rfl
theorem k56_mk (w : World) (x : S56)  : k56.K w x [.int .i64 x.f0, .int .i64 x.f1, .int .i64 x.f2, .int .i64 x.f3] := ⟨[.int .i64 x.f0], [.int .i64 x.f1, .int .i64 x.f2, .int .i64 x.f3], rfl, rfl, ⟨[.int .i64 x.f1], [.int .i64 x.f2, .int .i64 x.f3], rfl, rfl, ⟨[.int .i64 x.f2], [.int .i64 x.f3], rfl, rfl, rfl⟩⟩⟩
theorem k56_mkM (w : World) (base : Nat) (ok : Nat → Prop) (x : S56)  : k56.M w base ok x [.int .i64 x.f0, .int .i64 x.f1, .int .i64 x.f2, .int .i64 x.f3] := ⟨[.int .i64 x.f0], [.int .i64 x.f1, .int .i64 x.f2, .int .i64 x.f3], rfl, rfl, ⟨[.int .i64 x.f1], [.int .i64 x.f2, .int .i64 x.f3], rfl, rfl, ⟨[.int .i64 x.f2], [.int .i64 x.f3], rfl, rfl, rfl⟩⟩⟩
theorem k56_mkF (W : World) (ok : Nat → Prop) (x : S56) : Kd.FK k56 W ok x [.int .i64 x.f0, .int .i64 x.f1, .int .i64 x.f2, .int .i64 x.f3] := fun W2 _ => k56_mk W2 x
def rd_T56 (xs : List S56) (i : Int) : S56 := xs.getD i.toNat z56
theorem at_T56 {w : World} {A : Option Addr} {n : Nat} {xs : List S56} (h : Kd.C k56 w A n xs) (i : Int) (h0 : 0 ≤ i) (h1 : i < n) : ∃ ad , A = some ad ∧ w.cell? (ad.add (i.toNat * 4)) = some (.int .i64 (rd_T56 xs i).f0) ∧ w.cell? ⟨(ad.add (i.toNat * 4)).block, (ad.add (i.toNat * 4)).off + 1, none⟩ = some (.int .i64 (rd_T56 xs i).f1) ∧ w.cell? ⟨(ad.add (i.toNat * 4)).block, (ad.add (i.toNat * 4)).off + 2, none⟩ = some (.int .i64 (rd_T56 xs i).f2) ∧ w.cell? ⟨(ad.add (i.toNat * 4)).block, (ad.add (i.toNat * 4)).off + 3, none⟩ = some (.int .i64 (rd_T56 xs i).f3) := by
 obtain ⟨ad, c, e, _, hK, hc0⟩ := Kd.C_get h z56 i h0 h1
 have hc : ∀ j u, c[j]? = some u → w.cell? (ad.add (i.toNat * 4 + j)) = some u := hc0
 obtain rfl := k56_open hK
 exact ⟨ad, e, hc 0 _ rfl, by rw [← add_field _ _ 1 (by omega)]; exact hc 1 _ rfl, by rw [← add_field _ _ 2 (by omega)]; exact hc 2 _ rfl, by rw [← add_field _ _ 3 (by omega)]; exact hc 3 _ rfl⟩

/-! #### struct type 49 -/
structure S49 where
 f0 : ByteArray
 f1 : ByteArray
def z49 : S49 := ⟨(⟨#[]⟩ : ByteArray), (⟨#[]⟩ : ByteArray)⟩
def k49 : Kd S49 := Kd.iso (Kd.pair Kd.string Kd.string) (fun x : S49 => (x.f0, x.f1))
theorem k49_heap : Kd.Heap k49 := Kd.heap_iso _ (Kd.heap_pair Kd.heap_string Kd.heap_string)
theorem k49_open {w : World} {x : S49} {cs : List Value} (h : k49.K w x cs) : cs = [.string x.f0, .string x.f1] := by
 obtain ⟨_, _, rfl, rfl, rfl⟩ := h
 exact rfl
theorem k49_openM {w : World} {base : Nat} {ok : Nat → Prop} {x : S49} {cs : List Value} (h : k49.M w base ok x cs) : cs = [.string x.f0, .string x.f1] := by
 obtain ⟨_, _, rfl, rfl, rfl⟩ := h
 exact rfl
theorem k49_mk (w : World) (x : S49)  : k49.K w x [.string x.f0, .string x.f1] := ⟨[.string x.f0], [.string x.f1], rfl, rfl, rfl⟩
theorem k49_mkM (w : World) (base : Nat) (ok : Nat → Prop) (x : S49)  : k49.M w base ok x [.string x.f0, .string x.f1] := ⟨[.string x.f0], [.string x.f1], rfl, rfl, rfl⟩
theorem k49_mkF (W : World) (ok : Nat → Prop) (x : S49) : Kd.FK k49 W ok x [.string x.f0, .string x.f1] := fun W2 _ => k49_mk W2 x
def rd_T49 (xs : List S49) (i : Int) : S49 := xs.getD i.toNat z49
theorem at_T49 {w : World} {A : Option Addr} {n : Nat} {xs : List S49} (h : Kd.C k49 w A n xs) (i : Int) (h0 : 0 ≤ i) (h1 : i < n) : ∃ ad , A = some ad ∧ w.cell? (ad.add (i.toNat * 2)) = some (.string (rd_T49 xs i).f0) ∧ w.cell? ⟨(ad.add (i.toNat * 2)).block, (ad.add (i.toNat * 2)).off + 1, none⟩ = some (.string (rd_T49 xs i).f1) := by
 obtain ⟨ad, c, e, _, hK, hc0⟩ := Kd.C_get h z49 i h0 h1
 have hc : ∀ j u, c[j]? = some u → w.cell? (ad.add (i.toNat * 2 + j)) = some u := hc0
 obtain rfl := k49_open hK
 exact ⟨ad, e, hc 0 _ rfl, by rw [← add_field _ _ 1 (by omega)]; exact hc 1 _ rfl⟩

/-! #### struct type 25, nested in itself -/
mutual
structure S25 where
 f0 : Int
 f1 : (List S25)
 f2 : (List S51)
structure S51 where
 f0 : Int
 f1 : S49
 f2 : ByteArray
 f3 : (List S51)
 f4 : (List S25)
end
def z25 : S25 := ⟨(0 : Int), ([] : List S25), ([] : List S51)⟩
def F25 (d0 : Kd S25) (d1 : Kd S51) : Kd S25 := Kd.iso (Kd.pair (Kd.int .i64) (Kd.pair (Kd.slice 25 d0) (Kd.slice 51 d1))) (fun x : S25 => (x.f0, x.f1, x.f2))
theorem mono25_0 (d1 : Kd S51) : Kd.Mono (fun d0 => F25 d0 d1) := Kd.mono_iso _ (Kd.mono_pair (Kd.mono_const _) (Kd.mono_pair (Kd.mono_slice 25 Kd.mono_id) (Kd.mono_const _)))
theorem mono25_1 (d0 : Kd S25) : Kd.Mono (fun d1 => F25 d0 d1) := Kd.mono_iso _ (Kd.mono_pair (Kd.mono_const _) (Kd.mono_pair (Kd.mono_const _) (Kd.mono_slice 51 Kd.mono_id)))
theorem sub25 (d1 : Kd S51) (h1 : ∀ q, q ∈ d1.E → q ∈ [25, 51]) : Kd.Sub (fun d0 => F25 d0 d1) [25, 51] := Kd.sub_iso _ (Kd.sub_pair (Kd.sub_const _ (by decide)) (Kd.sub_pair (Kd.sub_slice 25 (by decide) Kd.sub_id) (Kd.sub_slice 51 (by decide) (Kd.sub_const _ h1))))
def F51 (d0 : Kd S25) (d1 : Kd S51) : Kd S51 := Kd.iso (Kd.pair (Kd.int .i64) (Kd.pair k49 (Kd.pair Kd.string (Kd.pair (Kd.slice 51 d1) (Kd.slice 25 d0))))) (fun x : S51 => (x.f0, x.f1, x.f2, x.f3, x.f4))
theorem mono51_0 (d1 : Kd S51) : Kd.Mono (fun d0 => F51 d0 d1) := Kd.mono_iso _ (Kd.mono_pair (Kd.mono_const _) (Kd.mono_pair (Kd.mono_const _) (Kd.mono_pair (Kd.mono_const _) (Kd.mono_pair (Kd.mono_const _) (Kd.mono_slice 25 Kd.mono_id)))))
theorem mono51_1 (d0 : Kd S25) : Kd.Mono (fun d1 => F51 d0 d1) := Kd.mono_iso _ (Kd.mono_pair (Kd.mono_const _) (Kd.mono_pair (Kd.mono_const _) (Kd.mono_pair (Kd.mono_const _) (Kd.mono_pair (Kd.mono_slice 51 Kd.mono_id) (Kd.mono_const _)))))
theorem sub51 (d1 : Kd S51) (h1 : ∀ q, q ∈ d1.E → q ∈ [25, 51]) : Kd.Sub (fun d0 => F51 d0 d1) [25, 51] := Kd.sub_iso _ (Kd.sub_pair (Kd.sub_const _ (by decide)) (Kd.sub_pair (Kd.sub_const _ (by decide)) (Kd.sub_pair (Kd.sub_const _ (by decide)) (Kd.sub_pair (Kd.sub_slice 51 (by decide) (Kd.sub_const _ h1)) (Kd.sub_slice 25 (by decide) Kd.sub_id)))))
theorem sz25 : ∀ n, (Kd.upto2 F25 F51 3 6 [25, 51] n).1.sz = 3 := (Kd.upto2_sz (F := F25) (G := F51) (y := 3) (z := 6) (E := [25, 51]) (fun _ _ => rfl) (fun _ _ => rfl)).1
theorem gr25 : Kd.Grows (fun n => (Kd.upto2 F25 F51 3 6 [25, 51] n).1) := (Kd.upto2_grows (F := F25) (G := F51) (y := 3) (z := 6) (E := [25, 51]) (fun _ _ => rfl) (fun _ _ => rfl) mono25_0 mono25_1 mono51_0 mono51_1).1
def k25 : Kd S25 := Kd.lim (fun n => (Kd.upto2 F25 F51 3 6 [25, 51] n).1) 3 [25, 51] sz25 (fun n => (Kd.upto2_E sub25 sub51 n).1)
theorem sz51 : ∀ n, (Kd.upto2 F25 F51 3 6 [25, 51] n).2.sz = 6 := (Kd.upto2_sz (F := F25) (G := F51) (y := 3) (z := 6) (E := [25, 51]) (fun _ _ => rfl) (fun _ _ => rfl)).2
theorem gr51 : Kd.Grows (fun n => (Kd.upto2 F25 F51 3 6 [25, 51] n).2) := (Kd.upto2_grows (F := F25) (G := F51) (y := 3) (z := 6) (E := [25, 51]) (fun _ _ => rfl) (fun _ _ => rfl) mono25_0 mono25_1 mono51_0 mono51_1).2
def k51 : Kd S51 := Kd.lim (fun n => (Kd.upto2 F25 F51 3 6 [25, 51] n).2) 6 [25, 51] sz51 (fun n => (Kd.upto2_E sub25 sub51 n).2)
theorem k25_heap : Kd.Heap k25 := Kd.heap_lim (fun n => (Kd.heap_upto2 (fun _ _ h0_ h1_ => Kd.heap_iso _ (Kd.heap_pair (Kd.heap_int .i64) (Kd.heap_pair (Kd.heap_slice 25 h0_) (Kd.heap_slice 51 h1_)))) (fun _ _ h0_ h1_ => Kd.heap_iso _ (Kd.heap_pair (Kd.heap_int .i64) (Kd.heap_pair k49_heap (Kd.heap_pair Kd.heap_string (Kd.heap_pair (Kd.heap_slice 51 h1_) (Kd.heap_slice 25 h0_)))))) n).1)
theorem k51_heap : Kd.Heap k51 := Kd.heap_lim (fun n => (Kd.heap_upto2 (fun _ _ h0_ h1_ => Kd.heap_iso _ (Kd.heap_pair (Kd.heap_int .i64) (Kd.heap_pair (Kd.heap_slice 25 h0_) (Kd.heap_slice 51 h1_)))) (fun _ _ h0_ h1_ => Kd.heap_iso _ (Kd.heap_pair (Kd.heap_int .i64) (Kd.heap_pair k49_heap (Kd.heap_pair Kd.heap_string (Kd.heap_pair (Kd.heap_slice 51 h1_) (Kd.heap_slice 25 h0_)))))) n).2)
theorem k25_open {w : World} {x : S25} {cs : List Value} (h : k25.K w x cs) : ∃ A1 c1 A2 c2, cs = [.int .i64 x.f0, .slice A1 x.f1.length c1, .slice A2 x.f2.length c2] ∧ x.f1.length ≤ c1 ∧ k25.C w A1 x.f1.length x.f1 ∧ x.f2.length ≤ c2 ∧ k51.C w A2 x.f2.length x.f2 := by
 obtain ⟨n, h⟩ := h
 cases n with
 | zero => exact h.elim
 | succ n =>
  obtain ⟨_, _, rfl, rfl, ⟨_, _, rfl, ⟨A1, c1, rfl, l1, g1⟩, ⟨A2, c2, rfl, l2, g2⟩⟩⟩ := h
  exact ⟨A1, c1, A2, c2, rfl, l1, Kd.lim_C g1, l2, Kd.lim_C g2⟩
theorem k25_openM {w : World} {base : Nat} {ok : Nat → Prop} {x : S25} {cs : List Value} (h : k25.M w base ok x cs) : ∃ v1 v2, cs = [.int .i64 x.f0, v1, v2] ∧ k25.R 25 w base ok v1 x.f1 ∧ k51.R 51 w base ok v2 x.f2 := by
 obtain ⟨n, h⟩ := h
 cases n with
 | zero => exact h.elim
 | succ n =>
  obtain ⟨_, _, rfl, rfl, ⟨_, _, rfl, ⟨v1, rfl, g1⟩, ⟨v2, rfl, g2⟩⟩⟩ := h
  exact ⟨v1, v2, rfl, Kd.lim_R g1, Kd.lim_R g2⟩
theorem k25_mk (w : World) (x : S25) {A1 : Option Addr} {c1 : Nat} (l1 : x.f1.length ≤ c1) (g1 : k25.C w A1 x.f1.length x.f1) {A2 : Option Addr} {c2 : Nat} (l2 : x.f2.length ≤ c2) (g2 : k51.C w A2 x.f2.length x.f2) : k25.K w x [.int .i64 x.f0, .slice A1 x.f1.length c1, .slice A2 x.f2.length c2] := by
 obtain ⟨n1, q1⟩ := Kd.lim_C_back gr25 g1
 obtain ⟨n2, q2⟩ := Kd.lim_C_back gr51 g2
 have r1 := Kd.Grows.C_le gr25 sz25 (show n1 ≤ (max n1 n2) by omega) q1
 have r2 := Kd.Grows.C_le gr51 sz51 (show n2 ≤ (max n1 n2) by omega) q2
 exact ⟨(max n1 n2) + 1, ⟨[.int .i64 x.f0], [.slice A1 x.f1.length c1, .slice A2 x.f2.length c2], rfl, rfl, ⟨[.slice A1 x.f1.length c1], [.slice A2 x.f2.length c2], rfl, ⟨A1, c1, rfl, l1, r1⟩, ⟨A2, c2, rfl, l2, r2⟩⟩⟩⟩
theorem k25_mkM (w : World) (base : Nat) (ok : Nat → Prop) (x : S25) {v1 : Value} (g1 : k25.R 25 w base ok v1 x.f1) {v2 : Value} (g2 : k51.R 51 w base ok v2 x.f2) : k25.M w base ok x [.int .i64 x.f0, v1, v2] := by
 obtain ⟨n1, q1⟩ := Kd.lim_R_back gr25 g1
 obtain ⟨n2, q2⟩ := Kd.lim_R_back gr51 g2
 have r1 := Kd.Grows.R_le gr25 sz25 (show n1 ≤ (max n1 n2) by omega) q1
 have r2 := Kd.Grows.R_le gr51 sz51 (show n2 ≤ (max n1 n2) by omega) q2
 exact ⟨(max n1 n2) + 1, ⟨[.int .i64 x.f0], [v1, v2], rfl, rfl, ⟨[v1], [v2], rfl, ⟨v1, rfl, r1⟩, ⟨v2, rfl, r2⟩⟩⟩⟩
theorem k25_openF {W : World} {ok : Nat → Prop} {x : S25} {cs : List Value} (h : Kd.FK k25 W ok x cs) : ∃ A1 c1 A2 c2, cs = [.int .i64 x.f0, .slice A1 x.f1.length c1, .slice A2 x.f2.length c2] ∧ x.f1.length ≤ c1 ∧ Kd.F k25 W ok A1 x.f1.length x.f1 ∧ x.f2.length ≤ c2 ∧ Kd.F k51 W ok A2 x.f2.length x.f2 := by
 obtain ⟨A1, c1, A2, c2, rfl, l1, _, l2, _⟩ := k25_open (Kd.FK_now h)
 exact ⟨A1, c1, A2, c2, rfl, l1, (fun W' hW => by obtain ⟨A1_, c1_, A2_, c2_, he, l1_, g1_, l2_, g2_⟩ := k25_open (h W' hW); injection (Option.some.inj (show some (Value.slice A1 x.f1.length c1) = some (Value.slice A1_ x.f1.length c1_) from congrArg (fun l => l[1]?) he)) with ha_ _ _; rw [ha_]; exact g1_), l2, (fun W' hW => by obtain ⟨A1_, c1_, A2_, c2_, he, l1_, g1_, l2_, g2_⟩ := k25_open (h W' hW); injection (Option.some.inj (show some (Value.slice A2 x.f2.length c2) = some (Value.slice A2_ x.f2.length c2_) from congrArg (fun l => l[2]?) he)) with ha_ _ _; rw [ha_]; exact g2_)⟩
theorem k25_mkF (W : World) (ok : Nat → Prop) (x : S25) {A1 : Option Addr} {c1 : Nat} (l1 : x.f1.length ≤ c1) (g1 : Kd.F k25 W ok A1 x.f1.length x.f1) {A2 : Option Addr} {c2 : Nat} (l2 : x.f2.length ≤ c2) (g2 : Kd.F k51 W ok A2 x.f2.length x.f2) : Kd.FK k25 W ok x [.int .i64 x.f0, .slice A1 x.f1.length c1, .slice A2 x.f2.length c2] := fun W2 hW => k25_mk W2 x l1 (g1 W2 hW) l2 (g2 W2 hW)
def rd_T25 (xs : List S25) (i : Int) : S25 := xs.getD i.toNat z25
theorem at_T25 {w : World} {A : Option Addr} {n : Nat} {xs : List S25} (h : Kd.C k25 w A n xs) (i : Int) (h0 : 0 ≤ i) (h1 : i < n) : ∃ ad A1 c1 A2 c2, A = some ad ∧ w.cell? (ad.add (i.toNat * 3)) = some (.int .i64 (rd_T25 xs i).f0) ∧ w.cell? ⟨(ad.add (i.toNat * 3)).block, (ad.add (i.toNat * 3)).off + 1, none⟩ = some (.slice A1 (rd_T25 xs i).f1.length c1) ∧ w.cell? ⟨(ad.add (i.toNat * 3)).block, (ad.add (i.toNat * 3)).off + 2, none⟩ = some (.slice A2 (rd_T25 xs i).f2.length c2) ∧ (rd_T25 xs i).f1.length ≤ c1 ∧ k25.C w A1 (rd_T25 xs i).f1.length (rd_T25 xs i).f1 ∧ (rd_T25 xs i).f2.length ≤ c2 ∧ k51.C w A2 (rd_T25 xs i).f2.length (rd_T25 xs i).f2 := by
 obtain ⟨ad, c, e, _, hK, hc0⟩ := Kd.C_get h z25 i h0 h1
 have hc : ∀ j u, c[j]? = some u → w.cell? (ad.add (i.toNat * 3 + j)) = some u := hc0
 obtain ⟨A1, c1, A2, c2, rfl, l1, g1, l2, g2⟩ := k25_open hK
 exact ⟨ad, A1, c1, A2, c2, e, hc 0 _ rfl, by rw [← add_field _ _ 1 (by omega)]; exact hc 1 _ rfl, by rw [← add_field _ _ 2 (by omega)]; exact hc 2 _ rfl, l1, g1, l2, g2⟩

/-! #### struct type 51, nested in itself -/
def z51 : S51 := ⟨(0 : Int), z49, (⟨#[]⟩ : ByteArray), ([] : List S51), ([] : List S25)⟩
theorem k51_open {w : World} {x : S51} {cs : List Value} (h : k51.K w x cs) : ∃ A4 c4 A5 c5, cs = [.int .i64 x.f0, .string x.f1.f0, .string x.f1.f1, .string x.f2, .slice A4 x.f3.length c4, .slice A5 x.f4.length c5] ∧ x.f3.length ≤ c4 ∧ k51.C w A4 x.f3.length x.f3 ∧ x.f4.length ≤ c5 ∧ k25.C w A5 x.f4.length x.f4 := by
 obtain ⟨n, h⟩ := h
 cases n with
 | zero => exact h.elim
 | succ n =>
  obtain ⟨_, _, rfl, rfl, ⟨_, _, rfl, s1, ⟨_, _, rfl, rfl, ⟨_, _, rfl, ⟨A4, c4, rfl, l4, g4⟩, ⟨A5, c5, rfl, l5, g5⟩⟩⟩⟩⟩ := h
  obtain rfl := k49_open s1
  exact ⟨A4, c4, A5, c5, rfl, l4, Kd.lim_C g4, l5, Kd.lim_C g5⟩
theorem k51_openM {w : World} {base : Nat} {ok : Nat → Prop} {x : S51} {cs : List Value} (h : k51.M w base ok x cs) : ∃ v4 v5, cs = [.int .i64 x.f0, .string x.f1.f0, .string x.f1.f1, .string x.f2, v4, v5] ∧ k51.R 51 w base ok v4 x.f3 ∧ k25.R 25 w base ok v5 x.f4 := by
 obtain ⟨n, h⟩ := h
 cases n with
 | zero => exact h.elim
 | succ n =>
  obtain ⟨_, _, rfl, rfl, ⟨_, _, rfl, s1, ⟨_, _, rfl, rfl, ⟨_, _, rfl, ⟨v4, rfl, g4⟩, ⟨v5, rfl, g5⟩⟩⟩⟩⟩ := h
  obtain rfl := k49_openM s1
  exact ⟨v4, v5, rfl, Kd.lim_R g4, Kd.lim_R g5⟩
theorem k51_mk (w : World) (x : S51) {A4 : Option Addr} {c4 : Nat} (l4 : x.f3.length ≤ c4) (g4 : k51.C w A4 x.f3.length x.f3) {A5 : Option Addr} {c5 : Nat} (l5 : x.f4.length ≤ c5) (g5 : k25.C w A5 x.f4.length x.f4) : k51.K w x [.int .i64 x.f0, .string x.f1.f0, .string x.f1.f1, .string x.f2, .slice A4 x.f3.length c4, .slice A5 x.f4.length c5] := by
 obtain ⟨n4, q4⟩ := Kd.lim_C_back gr51 g4
 obtain ⟨n5, q5⟩ := Kd.lim_C_back gr25 g5
 have r4 := Kd.Grows.C_le gr51 sz51 (show n4 ≤ (max n4 n5) by omega) q4
 have r5 := Kd.Grows.C_le gr25 sz25 (show n5 ≤ (max n4 n5) by omega) q5
 exact ⟨(max n4 n5) + 1, ⟨[.int .i64 x.f0], [.string x.f1.f0, .string x.f1.f1, .string x.f2, .slice A4 x.f3.length c4, .slice A5 x.f4.length c5], rfl, rfl, ⟨[.string x.f1.f0, .string x.f1.f1], [.string x.f2, .slice A4 x.f3.length c4, .slice A5 x.f4.length c5], rfl, (k49_mk w x.f1 ), ⟨[.string x.f2], [.slice A4 x.f3.length c4, .slice A5 x.f4.length c5], rfl, rfl, ⟨[.slice A4 x.f3.length c4], [.slice A5 x.f4.length c5], rfl, ⟨A4, c4, rfl, l4, r4⟩, ⟨A5, c5, rfl, l5, r5⟩⟩⟩⟩⟩⟩
theorem k51_mkM (w : World) (base : Nat) (ok : Nat → Prop) (x : S51) {v4 : Value} (g4 : k51.R 51 w base ok v4 x.f3) {v5 : Value} (g5 : k25.R 25 w base ok v5 x.f4) : k51.M w base ok x [.int .i64 x.f0, .string x.f1.f0, .string x.f1.f1, .string x.f2, v4, v5] := by
 obtain ⟨n4, q4⟩ := Kd.lim_R_back gr51 g4
 obtain ⟨n5, q5⟩ := Kd.lim_R_back gr25 g5
 have r4 := Kd.Grows.R_le gr51 sz51 (show n4 ≤ (max n4 n5) by omega) q4
 have r5 := Kd.Grows.R_le gr25 sz25 (show n5 ≤ (max n4 n5) by omega) q5
 exact ⟨(max n4 n5) + 1, ⟨[.int .i64 x.f0], [.string x.f1.f0, .string x.f1.f1, .string x.f2, v4, v5], rfl, rfl, ⟨[.string x.f1.f0, .string x.f1.f1], [.string x.f2, v4, v5], rfl, (k49_mkM w base ok x.f1 ), ⟨[.string x.f2], [v4, v5], rfl, rfl, ⟨[v4], [v5], rfl, ⟨v4, rfl, r4⟩, ⟨v5, rfl, r5⟩⟩⟩⟩⟩⟩
theorem k51_openF {W : World} {ok : Nat → Prop} {x : S51} {cs : List Value} (h : Kd.FK k51 W ok x cs) : ∃ A4 c4 A5 c5, cs = [.int .i64 x.f0, .string x.f1.f0, .string x.f1.f1, .string x.f2, .slice A4 x.f3.length c4, .slice A5 x.f4.length c5] ∧ x.f3.length ≤ c4 ∧ Kd.F k51 W ok A4 x.f3.length x.f3 ∧ x.f4.length ≤ c5 ∧ Kd.F k25 W ok A5 x.f4.length x.f4 := by
 obtain ⟨A4, c4, A5, c5, rfl, l4, _, l5, _⟩ := k51_open (Kd.FK_now h)
 exact ⟨A4, c4, A5, c5, rfl, l4, (fun W' hW => by obtain ⟨A4_, c4_, A5_, c5_, he, l4_, g4_, l5_, g5_⟩ := k51_open (h W' hW); injection (Option.some.inj (show some (Value.slice A4 x.f3.length c4) = some (Value.slice A4_ x.f3.length c4_) from congrArg (fun l => l[4]?) he)) with ha_ _ _; rw [ha_]; exact g4_), l5, (fun W' hW => by obtain ⟨A4_, c4_, A5_, c5_, he, l4_, g4_, l5_, g5_⟩ := k51_open (h W' hW); injection (Option.some.inj (show some (Value.slice A5 x.f4.length c5) = some (Value.slice A5_ x.f4.length c5_) from congrArg (fun l => l[5]?) he)) with ha_ _ _; rw [ha_]; exact g5_)⟩
theorem k51_mkF (W : World) (ok : Nat → Prop) (x : S51) {A4 : Option Addr} {c4 : Nat} (l4 : x.f3.length ≤ c4) (g4 : Kd.F k51 W ok A4 x.f3.length x.f3) {A5 : Option Addr} {c5 : Nat} (l5 : x.f4.length ≤ c5) (g5 : Kd.F k25 W ok A5 x.f4.length x.f4) : Kd.FK k51 W ok x [.int .i64 x.f0, .string x.f1.f0, .string x.f1.f1, .string x.f2, .slice A4 x.f3.length c4, .slice A5 x.f4.length c5] := fun W2 hW => k51_mk W2 x l4 (g4 W2 hW) l5 (g5 W2 hW)
def rd_T51 (xs : List S51) (i : Int) : S51 := xs.getD i.toNat z51
theorem at_T51 {w : World} {A : Option Addr} {n : Nat} {xs : List S51} (h : Kd.C k51 w A n xs) (i : Int) (h0 : 0 ≤ i) (h1 : i < n) : ∃ ad A4 c4 A5 c5, A = some ad ∧ w.cell? (ad.add (i.toNat * 6)) = some (.int .i64 (rd_T51 xs i).f0) ∧ w.cell? ⟨(ad.add (i.toNat * 6)).block, (ad.add (i.toNat * 6)).off + 1, none⟩ = some (.string (rd_T51 xs i).f1.f0) ∧ w.cell? ⟨(ad.add (i.toNat * 6)).block, (ad.add (i.toNat * 6)).off + 2, none⟩ = some (.string (rd_T51 xs i).f1.f1) ∧ w.cell? ⟨(ad.add (i.toNat * 6)).block, (ad.add (i.toNat * 6)).off + 3, none⟩ = some (.string (rd_T51 xs i).f2) ∧ w.cell? ⟨(ad.add (i.toNat * 6)).block, (ad.add (i.toNat * 6)).off + 4, none⟩ = some (.slice A4 (rd_T51 xs i).f3.length c4) ∧ w.cell? ⟨(ad.add (i.toNat * 6)).block, (ad.add (i.toNat * 6)).off + 5, none⟩ = some (.slice A5 (rd_T51 xs i).f4.length c5) ∧ (rd_T51 xs i).f3.length ≤ c4 ∧ k51.C w A4 (rd_T51 xs i).f3.length (rd_T51 xs i).f3 ∧ (rd_T51 xs i).f4.length ≤ c5 ∧ k25.C w A5 (rd_T51 xs i).f4.length (rd_T51 xs i).f4 := by
 obtain ⟨ad, c, e, _, hK, hc0⟩ := Kd.C_get h z51 i h0 h1
 have hc : ∀ j u, c[j]? = some u → w.cell? (ad.add (i.toNat * 6 + j)) = some u := hc0
 obtain ⟨A4, c4, A5, c5, rfl, l4, g4, l5, g5⟩ := k51_open hK
 exact ⟨ad, A4, c4, A5, c5, e, hc 0 _ rfl, by rw [← add_field _ _ 1 (by omega)]; exact hc 1 _ rfl, by rw [← add_field _ _ 2 (by omega)]; exact hc 2 _ rfl, by rw [← add_field _ _ 3 (by omega)]; exact hc 3 _ rfl, by rw [← add_field _ _ 4 (by omega)]; exact hc 4 _ rfl, by rw [← add_field _ _ 5 (by omega)]; exact hc 5 _ rfl, l4, g4, l5, g5⟩

/-! #### struct type 73 -/
structure S73 where
 f0 : S49
 f1 : ByteArray
def z73 : S73 := ⟨z49, (⟨#[]⟩ : ByteArray)⟩
def k73 : Kd S73 := Kd.iso (Kd.pair k49 Kd.string) (fun x : S73 => (x.f0, x.f1))
theorem k73_heap : Kd.Heap k73 := Kd.heap_iso _ (Kd.heap_pair k49_heap Kd.heap_string)
theorem k73_open {w : World} {x : S73} {cs : List Value} (h : k73.K w x cs) : cs = [.string x.f0.f0, .string x.f0.f1, .string x.f1] := by
 obtain ⟨_, _, rfl, s0, rfl⟩ := h
 obtain rfl := k49_open s0
 exact rfl
theorem k73_openM {w : World} {base : Nat} {ok : Nat → Prop} {x : S73} {cs : List Value} (h : k73.M w base ok x cs) : cs = [.string x.f0.f0, .string x.f0.f1, .string x.f1] := by
 obtain ⟨_, _, rfl, s0, rfl⟩ := h
 obtain rfl := k49_openM s0
 exact rfl
theorem k73_mk (w : World) (x : S73)  : k73.K w x [.string x.f0.f0, .string x.f0.f1, .string x.f1] := ⟨[.string x.f0.f0, .string x.f0.f1], [.string x.f1], rfl, (k49_mk w x.f0 ), rfl⟩
theorem k73_mkM (w : World) (base : Nat) (ok : Nat → Prop) (x : S73)  : k73.M w base ok x [.string x.f0.f0, .string x.f0.f1, .string x.f1] := ⟨[.string x.f0.f0, .string x.f0.f1], [.string x.f1], rfl, (k49_mkM w base ok x.f0 ), rfl⟩
theorem k73_mkF (W : World) (ok : Nat → Prop) (x : S73) : Kd.FK k73 W ok x [.string x.f0.f0, .string x.f0.f1, .string x.f1] := fun W2 _ => k73_mk W2 x
def rd_T73 (xs : List S73) (i : Int) : S73 := xs.getD i.toNat z73
theorem at_T73 {w : World} {A : Option Addr} {n : Nat} {xs : List S73} (h : Kd.C k73 w A n xs) (i : Int) (h0 : 0 ≤ i) (h1 : i < n) : ∃ ad , A = some ad ∧ w.cell? (ad.add (i.toNat * 3)) = some (.string (rd_T73 xs i).f0.f0) ∧ w.cell? ⟨(ad.add (i.toNat * 3)).block, (ad.add (i.toNat * 3)).off + 1, none⟩ = some (.string (rd_T73 xs i).f0.f1) ∧ w.cell? ⟨(ad.add (i.toNat * 3)).block, (ad.add (i.toNat * 3)).off + 2, none⟩ = some (.string (rd_T73 xs i).f1) := by
 obtain ⟨ad, c, e, _, hK, hc0⟩ := Kd.C_get h z73 i h0 h1
 have hc : ∀ j u, c[j]? = some u → w.cell? (ad.add (i.toNat * 3 + j)) = some u := hc0
 obtain rfl := k73_open hK
 exact ⟨ad, e, hc 0 _ rfl, by rw [← add_field _ _ 1 (by omega)]; exact hc 1 _ rfl, by rw [← add_field _ _ 2 (by omega)]; exact hc 2 _ rfl⟩

def rd_L10 (xs : List (List S73)) (i : Int) : (List S73) := xs.getD i.toNat ([] : List S73)
theorem at_L10 {w : World} {A : Option Addr} {n : Nat} {xs : List (List S73)} (h : Kd.C (Kd.slice 73 k73) w A n xs) (i : Int) (h0 : 0 ≤ i) (h1 : i < n) : ∃ ad A0 c0, A = some ad ∧ w.cell? (ad.add i.toNat) = some (.slice A0 (rd_L10 xs i).length c0) ∧ (rd_L10 xs i).length ≤ c0 ∧ k73.C w A0 (rd_L10 xs i).length (rd_L10 xs i) := by
 obtain ⟨ad, c, e, _, hK, hc0⟩ := Kd.C_get h ([] : List S73) i h0 h1
 have hc : ∀ j u, c[j]? = some u → w.cell? (ad.add (i.toNat * 1 + j)) = some u := hc0
 obtain ⟨A0, c0, rfl, l0, g0⟩ := hK
 exact ⟨ad, A0, c0, e, by have hq := hc 0 _ rfl; rwa [Nat.mul_one, Nat.add_zero] at hq, l0, g0⟩

/-! #### struct type 71 -/
structure S71 where
 f0 : Int
 f1 : S49
 f2 : (List S73)
 f3 : ByteArray
def z71 : S71 := ⟨(0 : Int), z49, ([] : List S73), (⟨#[]⟩ : ByteArray)⟩
def k71 : Kd S71 := Kd.iso (Kd.pair (Kd.int .i64) (Kd.pair k49 (Kd.pair (Kd.slice 73 k73) Kd.string))) (fun x : S71 => (x.f0, x.f1, x.f2, x.f3))
theorem k71_heap : Kd.Heap k71 := Kd.heap_iso _ (Kd.heap_pair (Kd.heap_int .i64) (Kd.heap_pair k49_heap (Kd.heap_pair (Kd.heap_slice 73 k73_heap) Kd.heap_string)))
theorem k71_open {w : World} {x : S71} {cs : List Value} (h : k71.K w x cs) : ∃ A3 c3, cs = [.int .i64 x.f0, .string x.f1.f0, .string x.f1.f1, .slice A3 x.f2.length c3, .string x.f3] ∧ x.f2.length ≤ c3 ∧ k73.C w A3 x.f2.length x.f2 := by
 obtain ⟨_, _, rfl, rfl, ⟨_, _, rfl, s1, ⟨_, _, rfl, ⟨A3, c3, rfl, l3, g3⟩, rfl⟩⟩⟩ := h
 obtain rfl := k49_open s1
 exact ⟨A3, c3, rfl, l3, g3⟩
theorem k71_openM {w : World} {base : Nat} {ok : Nat → Prop} {x : S71} {cs : List Value} (h : k71.M w base ok x cs) : ∃ v3, cs = [.int .i64 x.f0, .string x.f1.f0, .string x.f1.f1, v3, .string x.f3] ∧ k73.R 73 w base ok v3 x.f2 := by
 obtain ⟨_, _, rfl, rfl, ⟨_, _, rfl, s1, ⟨_, _, rfl, ⟨v3, rfl, g3⟩, rfl⟩⟩⟩ := h
 obtain rfl := k49_openM s1
 exact ⟨v3, rfl, g3⟩
theorem k71_mk (w : World) (x : S71) {A3 : Option Addr} {c3 : Nat} (l3 : x.f2.length ≤ c3) (g3 : k73.C w A3 x.f2.length x.f2) : k71.K w x [.int .i64 x.f0, .string x.f1.f0, .string x.f1.f1, .slice A3 x.f2.length c3, .string x.f3] := ⟨[.int .i64 x.f0], [.string x.f1.f0, .string x.f1.f1, .slice A3 x.f2.length c3, .string x.f3], rfl, rfl, ⟨[.string x.f1.f0, .string x.f1.f1], [.slice A3 x.f2.length c3, .string x.f3], rfl, (k49_mk w x.f1 ), ⟨[.slice A3 x.f2.length c3], [.string x.f3], rfl, ⟨A3, c3, rfl, l3, g3⟩, rfl⟩⟩⟩
theorem k71_mkM (w : World) (base : Nat) (ok : Nat → Prop) (x : S71) {v3 : Value} (g3 : k73.R 73 w base ok v3 x.f2) : k71.M w base ok x [.int .i64 x.f0, .string x.f1.f0, .string x.f1.f1, v3, .string x.f3] := ⟨[.int .i64 x.f0], [.string x.f1.f0, .string x.f1.f1, v3, .string x.f3], rfl, rfl, ⟨[.string x.f1.f0, .string x.f1.f1], [v3, .string x.f3], rfl, (k49_mkM w base ok x.f1 ), ⟨[v3], [.string x.f3], rfl, ⟨v3, rfl, g3⟩, rfl⟩⟩⟩
theorem k71_openF {W : World} {ok : Nat → Prop} {x : S71} {cs : List Value} (h : Kd.FK k71 W ok x cs) : ∃ A3 c3, cs = [.int .i64 x.f0, .string x.f1.f0, .string x.f1.f1, .slice A3 x.f2.length c3, .string x.f3] ∧ x.f2.length ≤ c3 ∧ Kd.F k73 W ok A3 x.f2.length x.f2 := by
 obtain ⟨A3, c3, rfl, l3, _⟩ := k71_open (Kd.FK_now h)
 exact ⟨A3, c3, rfl, l3, (fun W' hW => by obtain ⟨A3_, c3_, he, l3_, g3_⟩ := k71_open (h W' hW); injection (Option.some.inj (show some (Value.slice A3 x.f2.length c3) = some (Value.slice A3_ x.f2.length c3_) from congrArg (fun l => l[3]?) he)) with ha_ _ _; rw [ha_]; exact g3_)⟩
theorem k71_mkF (W : World) (ok : Nat → Prop) (x : S71) {A3 : Option Addr} {c3 : Nat} (l3 : x.f2.length ≤ c3) (g3 : Kd.F k73 W ok A3 x.f2.length x.f2) : Kd.FK k71 W ok x [.int .i64 x.f0, .string x.f1.f0, .string x.f1.f1, .slice A3 x.f2.length c3, .string x.f3] := fun W2 hW => k71_mk W2 x l3 (g3 W2 hW)
def rd_T71 (xs : List S71) (i : Int) : S71 := xs.getD i.toNat z71
theorem at_T71 {w : World} {A : Option Addr} {n : Nat} {xs : List S71} (h : Kd.C k71 w A n xs) (i : Int) (h0 : 0 ≤ i) (h1 : i < n) : ∃ ad A3 c3, A = some ad ∧ w.cell? (ad.add (i.toNat * 5)) = some (.int .i64 (rd_T71 xs i).f0) ∧ w.cell? ⟨(ad.add (i.toNat * 5)).block, (ad.add (i.toNat * 5)).off + 1, none⟩ = some (.string (rd_T71 xs i).f1.f0) ∧ w.cell? ⟨(ad.add (i.toNat * 5)).block, (ad.add (i.toNat * 5)).off + 2, none⟩ = some (.string (rd_T71 xs i).f1.f1) ∧ w.cell? ⟨(ad.add (i.toNat * 5)).block, (ad.add (i.toNat * 5)).off + 3, none⟩ = some (.slice A3 (rd_T71 xs i).f2.length c3) ∧ w.cell? ⟨(ad.add (i.toNat * 5)).block, (ad.add (i.toNat * 5)).off + 4, none⟩ = some (.string (rd_T71 xs i).f3) ∧ (rd_T71 xs i).f2.length ≤ c3 ∧ k73.C w A3 (rd_T71 xs i).f2.length (rd_T71 xs i).f2 := by
 obtain ⟨ad, c, e, _, hK, hc0⟩ := Kd.C_get h z71 i h0 h1
 have hc : ∀ j u, c[j]? = some u → w.cell? (ad.add (i.toNat * 5 + j)) = some u := hc0
 obtain ⟨A3, c3, rfl, l3, g3⟩ := k71_open hK
 exact ⟨ad, A3, c3, e, hc 0 _ rfl, by rw [← add_field _ _ 1 (by omega)]; exact hc 1 _ rfl, by rw [← add_field _ _ 2 (by omega)]; exact hc 2 _ rfl, by rw [← add_field _ _ 3 (by omega)]; exact hc 3 _ rfl, by rw [← add_field _ _ 4 (by omega)]; exact hc 4 _ rfl, l3, g3⟩

def rd_L12 (xs : List (List Bool)) (i : Int) : (List Bool) := xs.getD i.toNat ([] : List Bool)
theorem at_L12 {w : World} {A : Option Addr} {n : Nat} {xs : List (List Bool)} (h : Kd.C (Kd.slice 4 Kd.bool) w A n xs) (i : Int) (h0 : 0 ≤ i) (h1 : i < n) : ∃ ad A0 c0, A = some ad ∧ w.cell? (ad.add i.toNat) = some (.slice A0 (rd_L12 xs i).length c0) ∧ (rd_L12 xs i).length ≤ c0 ∧ Kd.bool.C w A0 (rd_L12 xs i).length (rd_L12 xs i) := by
 obtain ⟨ad, c, e, _, hK, hc0⟩ := Kd.C_get h ([] : List Bool) i h0 h1
 have hc : ∀ j u, c[j]? = some u → w.cell? (ad.add (i.toNat * 1 + j)) = some u := hc0
 obtain ⟨A0, c0, rfl, l0, g0⟩ := hK
 exact ⟨ad, A0, c0, e, by have hq := hc 0 _ rfl; rwa [Nat.mul_one, Nat.add_zero] at hq, l0, g0⟩

inductive Fit49 : S49 → Prop where
 | mk (x : S49) (h0 : x.f0.size ≤ 1048576) (h1 : x.f1.size ≤ 1048576) : Fit49 x
theorem Fit49.un {x : S49} (h : Fit49 x) : (x.f0.size ≤ 1048576) ∧ (x.f1.size ≤ 1048576) := by
 cases h
 exact ⟨by assumption, by assumption⟩
mutual
inductive Fit25 : S25 → Prop where
 | mk (x : S25) (h0 : (Lit.int .i64 x.f0).wf = true) (h1 : x.f1.length ≤ 1048576) (h2 : ∀ y_, y_ ∈ x.f1 → Fit25 y_) (h3 : x.f2.length ≤ 1048576) (h4 : ∀ y_, y_ ∈ x.f2 → Fit51 y_) : Fit25 x
inductive Fit51 : S51 → Prop where
 | mk (x : S51) (h0 : (Lit.int .i64 x.f0).wf = true) (h1 : Fit49 x.f1) (h2 : x.f2.size ≤ 1048576) (h3 : x.f3.length ≤ 1048576) (h4 : ∀ y_, y_ ∈ x.f3 → Fit51 y_) (h5 : x.f4.length ≤ 1048576) (h6 : ∀ y_, y_ ∈ x.f4 → Fit25 y_) : Fit51 x
end
theorem Fit25.un {x : S25} (h : Fit25 x) : ((Lit.int .i64 x.f0).wf = true) ∧ (x.f1.length ≤ 1048576) ∧ (∀ y_, y_ ∈ x.f1 → Fit25 y_) ∧ (x.f2.length ≤ 1048576) ∧ (∀ y_, y_ ∈ x.f2 → Fit51 y_) := by
 cases h
 exact ⟨by assumption, by assumption, by assumption, by assumption, by assumption⟩
theorem Fit51.un {x : S51} (h : Fit51 x) : ((Lit.int .i64 x.f0).wf = true) ∧ (Fit49 x.f1) ∧ (x.f2.size ≤ 1048576) ∧ (x.f3.length ≤ 1048576) ∧ (∀ y_, y_ ∈ x.f3 → Fit51 y_) ∧ (x.f4.length ≤ 1048576) ∧ (∀ y_, y_ ∈ x.f4 → Fit25 y_) := by
 cases h
 exact ⟨by assumption, by assumption, by assumption, by assumption, by assumption, by assumption, by assumption⟩
end Go.Proofs.Ytmbbjdkcanoklaa.X
