/- NameJoins: a stretch that is cut off is as long as can be: what stands behind it may not stand in a name, and all of it may. -/
import Derived.Test.YtccjkjmhmbcleaaX6
import Derived.Test.YtccjkjmhmbcleaaNameE
set_option linter.unusedVariables false
set_option linter.unusedSimpArgs false
namespace Go.Proofs.Ytccjkjmhmbcleaa.Pure
open Go.RowKit Go.Proofs.YtccjkjmhmbcleaaW.PrintWords Go.Proofs.YtccjkjmhmbcleaaW.PrintLast Go.Proofs.Ytccjkjmhmbcleaa.X Go.Proofs.Ytccjkjmhmbcleaa.E Go.Proofs.Ytccjkjmhmbcleaa.Nm
attribute [local irreducible] ru wd
theorem empty_extract (s : ByteArray) (a : Nat) : (s.extract a a).toList = ([] : List UInt8) := by
  rw [Lib.toList_data]
  have : (s.extract a a).data.toList.length = 0 := by
    show (s.extract a a).size = 0
    rw [ByteArray.size_extract]; omega
  exact List.length_eq_zero_iff.mp this
theorem extract2 (s : ByteArray) (a b : Nat) (h : b ≤ s.size) : (s.extract a s.size).extract 0 (b - a) = s.extract a b := by
  apply bytesOf_inj
  rw [bytesOf_extract, bytesOf_extract, bytesOf_extract, List.drop_zero, size_bytesOf s, List.take_of_length_le (Nat.le_refl _), List.drop_take]
theorem extract_tail (s : ByteArray) (a b : Nat) (h : b ≤ s.size) : (s.extract a b).extract 0 (s.extract a b).size = s.extract a b := by
  apply bytesOf_inj
  rw [bytesOf_extract, List.drop_zero, size_bytesOf (s.extract a b), List.take_of_length_le (Nat.le_refl _)]
theorem NameJoins : oriellaw03_NameJoins.Pure := by
  intro s a1 hs ha
  have hb := wf_bd_u8 ha
  apply Evn.get
  refine Evn.congr (fun k => by rw [oriellaw03_NameJoins.f]) ?_
  refine Evn.bind awake_ev (Evn.iteT rfl ?_)
  by_cases h : (s.size : Int) > 200
  · rw [decide_eq_true h]
    refine Evn.succ (fun k => by rw [oriellaw03_NameJoins.j0]) ?_
    exact Evn.iteT rfl (Evn.bind awake_ev (Evn.ret _))
  rw [decide_eq_false h]
  have hz : s.size ≤ 1000000000 := by omega
  have hc0 : 0 ≤ a1 % ((s.size : Int) + 1) := Int.emod_nonneg _ (by omega)
  have hc1 : a1 % ((s.size : Int) + 1) < s.size + 1 := Int.emod_lt_of_pos _ (by omega)
  obtain ⟨c, hc⟩ : ∃ c : Nat, a1 % ((s.size : Int) + 1) = c := ⟨_, (Int.toNat_of_nonneg hc0).symm⟩
  have hcN : c ≤ s.size := by omega
  have E1 : Aside0 (wrap64 ((s.size : Int) + 1) = s.size + 1) := ⟨w64 (by omega) (by omega)⟩
  have E2 : Aside0 (wrap64 a1 = a1) := ⟨w64 (by omega) (by omega)⟩
  have E3 : Aside0 (Int.tmod a1 ((s.size : Int) + 1) = c) := ⟨by rw [Int.tmod_eq_emod_of_nonneg hb.1, hc]⟩
  clear hc hc0 hc1
  refine Evn.succ (fun k => by rw [oriellaw03_NameJoins.j0, E1.out, E2.out, E3.out]) ?_
  refine Evn.iteF (by decide) (Evn.iteF (by omega) (Evn.bind (cut_ev s hz c hcN) ?_))
  -- the stretch
  have hts := tail_size s c
  have hst := stp_stop cutOK (s.extract c s.size) 0 (Nat.zero_le _)
  unfold cutS
  generalize hq : stp cutOK (s.extract c s.size) 0 = q at *
  have hle := hst.le
  have hcs : (s.extract c (c + q)).size = q := by rw [ByteArray.size_extract]; omega
  have E4 : Aside0 (wrap64 ((c : Int) + ((s.extract c (c + q)).size : Int)) = ((c + q : Nat) : Int)) := ⟨by rw [hcs]; exact w64 (by omega) (by omega)⟩
  have hj : Evn (fun k => oriellaw03_NameJoins.j1 k s (s.extract c (c + q)) ((c + q : Nat) : Int) false) true := by
    refine Evn.succ (fun k => by rw [oriellaw03_NameJoins.j1]) ?_
    refine Evn.iteF (by decide) (Evn.bind (cut_ev s hz (c + q) (by omega)) (Evn.bind (cut_ev (s.extract c (c + q)) (by omega) 0 (by omega)) ?_))
    -- behind it
    have hrest : stp cutOK (s.extract (c + q) s.size) 0 = 0 := by
      refine stp_eq (Nat.zero_le _) ⟨.nil 0, Nat.zero_le _, fun hp => ?_⟩
      have h2 := tail_size s (c + q)
      have := hst.stop (by omega)
      have e : ru (s.extract (c + q) s.size) 0 = ru (s.extract c s.size) q := by
        unfold ru
        rw [dec_tail, dec_tail, Nat.add_zero]
      rw [e]
      exact this
    -- all of it
    have hall : stp cutOK (s.extract c (c + q)) 0 = q := by
      have hwalk : Walk cutOK (s.extract c (c + q)) (0 + 0) (0 + q) := by
        refine hst.walk.of_dec hst.le (fun p h1 h2 => by omega) (fun p h1 h2 => ?_)
        rw [Nat.zero_add]
        have e : s.extract c (c + q) = (s.extract c s.size).extract 0 q := by
          rw [← extract2 s c (c + q) (by omega), Nat.add_sub_cancel_left]
        rw [e]
        exact dec_head _ q p hst.le h1 h2
      rw [Nat.zero_add, Nat.zero_add] at hwalk
      exact stp_eq (Nat.zero_le _) ⟨hwalk, by omega, fun h => by omega⟩
    unfold cutS
    rw [hrest, extract_tail s c (c + q) (by omega), hall, Nat.add_zero, Nat.zero_add]
    refine Evn.iteT (empty_extract s _) (Evn.iteT rfl (Evn.iteT ?_ ?_))
    · show ((s.extract c (c + q)).extract 0 q).toList = _
      have := extract_tail s c (c + q) (by omega)
      rw [hcs] at this
      rw [this]
    · rw [hcs, beq_self_eq_true]
      exact Evn.ret _
  refine Evn.iteT E4.out.symm (Evn.iteT (Int.natCast_nonneg c) (Evn.iteT (by simp only; omega) (Evn.iteT (by simp only; omega) ?_)))
  simp only [Int.toNat_natCast, bne_self_eq_false]
  exact hj
end Go.Proofs.Ytccjkjmhmbcleaa.Pure
