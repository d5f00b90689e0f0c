/- NameParts: a name is a plain one, or two with one colon between; put together again it is as it was. -/
import Derived.Test.YtccjkjmhmbcleaaX1
import Derived.Test.YtccjkjmhmbcleaaX5
import Derived.Test.YtccjkjmhmbcleaaNameE
set_option linter.unusedVariables false
set_option linter.unusedSimpArgs false
namespace Go.Proofs.Ytccjkjmhmbcleaa.Pure
open Go.RowKit Go.Proofs.YtccjkjmhmbcleaaW.PrintWords Go.Proofs.YtccjkjmhmbcleaaW.PrintLast Go.Proofs.Ytccjkjmhmbcleaa.X Go.Proofs.Ytccjkjmhmbcleaa.E Go.Proofs.Ytccjkjmhmbcleaa.Nm
attribute [local irreducible] ru wd
theorem toList_nil (s : ByteArray) : s.toList = ([] : List UInt8) ↔ s.size = 0 := by
  rw [Lib.toList_data]
  show _ ↔ s.data.toList.length = 0
  exact List.length_eq_zero_iff.symm
theorem join_evn (a b : ByteArray) (ha : a.size ≤ 1000000000) (hb : b.size ≤ 1000000000) : name_Join.f a b = some (if a.size = 0 then b else (a ++ (⟨#[58]⟩ : ByteArray)) ++ b) := by
  have h1 : (a ++ (⟨#[58]⟩ : ByteArray)).size = a.size + 1 := by rw [ByteArray.size_append]; rfl
  unfold name_Join.f
  by_cases h : a.size = 0
  · rw [if_pos ((toList_nil a).mpr h), if_pos h]
  · rw [if_neg (fun e => h ((toList_nil a).mp e)), if_neg h, if_pos (by omega), if_pos (by omega)]
theorem ev_some {α : Type} {o : Option α} {r : α} (h : o = some r) : Evn (fun _ => o) r := ⟨0, fun _ _ => h⟩
/-- with a colon between -/
def colon (a b : ByteArray) : ByteArray := (a ++ (⟨#[58]⟩ : ByteArray)) ++ b
theorem colon_assoc (a b : ByteArray) : colon a b = a ++ ((⟨#[58]⟩ : ByteArray) ++ b) := ByteArray.append_assoc
theorem colon_size (a b : ByteArray) : (colon a b).size = a.size + 1 + b.size := by
  unfold colon
  rw [ByteArray.size_append, ByteArray.size_append]
  rfl
theorem colon_head (a b : ByteArray) : (colon a b).extract 0 a.size = a := by
  apply bytesOf_inj
  rw [colon_assoc, bytesOf_extract, bytesOf_append, List.drop_zero, size_bytesOf a, List.take_left]
theorem colon_tail (a b : ByteArray) : (colon a b).extract (a.size + 1) (colon a b).size = b := by
  apply bytesOf_inj
  rw [bytesOf_extract, size_bytesOf (colon a b), List.take_of_length_le (Nat.le_refl _)]
  unfold colon
  rw [bytesOf_append]
  have : a.size + 1 = (bytesOf (a ++ (⟨#[58]⟩ : ByteArray))).length := by rw [← size_bytesOf, ByteArray.size_append]; rfl
  rw [this, List.drop_left]
theorem colon_at (a b : ByteArray) : by_ (colon a b) a.size = 58 := by
  rw [colon_assoc, by_append, if_neg (by omega), Nat.sub_self, by_append, if_pos (by decide)]
  rfl
theorem colon_before (a b : ByteArray) (ha : ∀ j, j < a.size → by_ a j ≠ 58) : ∀ j, j < a.size → by_ (colon a b) j ≠ 58 := by
  intro j hj
  rw [colon_assoc, by_append, if_pos hj]
  exact ha j hj
theorem colon_fc (a b : ByteArray) (ha : ∀ j, j < a.size → by_ a j ≠ 58) : fc (colon a b) = a.size := by
  have hb := colon_before a b ha
  have hat := colon_at a b
  have hz := colon_size a b
  rcases fc_spec (colon a b) with ⟨h1, h2⟩ | ⟨i, h1, h2, h3, h4⟩
  · exact absurd hat (h2 a.size (by omega))
  · rw [h1]
    have c1 : ¬ i < a.size := fun h => hb i h h3
    have c2 : ¬ a.size < i := fun h => h4 a.size h hat
    omega
theorem split_colon (a b : ByteArray) (ha : plainB a = true) (hb : plainB b = true) : splitS (colon a b) = (a, b, true) := by
  unfold splitS
  rw [colon_fc a b (plain_no a ha), if_pos (by omega), Int.toNat_natCast, colon_head, colon_tail, if_pos hb, if_pos ha]
theorem split_three (a b c : ByteArray) (ha : plainB a = true) : (splitS (colon a (colon b c))).2.2 = false := by
  unfold splitS
  have hn : plainB (colon b c) = false := Bool.eq_false_iff.mpr fun h => plain_no _ h b.size (by rw [colon_size]; omega) (colon_at b c)
  rw [colon_fc a _ (plain_no a ha), if_pos (by omega), Int.toNat_natCast, colon_tail, if_neg (by rw [hn]; decide)]
theorem plain_walk (s : ByteArray) (h : plainB s = true) : Walk cutOK s 0 s.size := by
  unfold plainB at h
  simp only [Bool.and_eq_true, decide_eq_true_eq] at h
  obtain ⟨h0, h1, h2⟩ := h
  have := stp_stop partB s 0 (Nat.zero_le _)
  rw [h2] at this
  exact this.walk.mono (fun r => part_cut)
/-- the bytes of two plain names with a colon between, a blank behind: all of it ahead of the blank -/
theorem walk_more (x y : ByteArray) (hx : Walk cutOK x 0 x.size) (hy : by_ y 0 < 128) : Walk cutOK (x ++ y) 0 x.size := by
  have := hx.of_dec (t := x ++ y) (d := 0) (Nat.le_refl _) (fun p h1 h2 => by rw [ByteArray.size_append]; omega) (fun p h1 h2 => by rw [Nat.zero_add]; exact dec_more x y p h1 hy)
  rwa [Nat.zero_add, Nat.zero_add] at this
theorem walk_behind (x y : ByteArray) (q : Nat) (hq : q ≤ y.size) (hy : Walk cutOK y 0 q) : Walk cutOK (x ++ y) x.size (x.size + q) := by
  have := hy.of_dec (t := x ++ y) (d := x.size) hq (fun p h1 h2 => by rw [ByteArray.size_append]; omega) (fun p h1 h2 => dec_behind x y p)
  rwa [Nat.add_zero] at this
theorem cut_colon (a b : ByteArray) (ha : plainB a = true) (hb : plainB b = true) : stp cutOK (colon a b ++ (⟨#[32]⟩ : ByteArray)) 0 = (colon a b).size := by
  have hz := colon_size a b
  have w1 := plain_walk a ha
  have w2 := walk_more b (⟨#[32]⟩ : ByteArray) (plain_walk b hb) (by decide)
  -- a, the colon
  have w3 : Walk cutOK (colon a b ++ (⟨#[32]⟩ : ByteArray)) 0 a.size := by
    have e : colon a b ++ (⟨#[32]⟩ : ByteArray) = a ++ ((⟨#[58]⟩ : ByteArray) ++ (b ++ (⟨#[32]⟩ : ByteArray))) := by
      rw [colon_assoc, ByteArray.append_assoc, ByteArray.append_assoc]
    rw [e]
    refine walk_more a _ w1 ?_
    rw [by_append, if_pos (by decide)]
    decide
  have hbz : (colon a b ++ (⟨#[32]⟩ : ByteArray)).size = a.size + 1 + b.size + 1 := by rw [ByteArray.size_append, hz]; rfl
  have h58 : by_ (colon a b ++ (⟨#[32]⟩ : ByteArray)) a.size = 58 := by rw [by_append, if_pos (by omega)]; exact colon_at a b
  have hr := ru_ascii (colon a b ++ (⟨#[32]⟩ : ByteArray)) a.size (by omega)
  have w4 : Walk cutOK (colon a b ++ (⟨#[32]⟩ : ByteArray)) (a.size + 1) (a.size + 1 + b.size) := by
    have e : colon a b ++ (⟨#[32]⟩ : ByteArray) = (a ++ (⟨#[58]⟩ : ByteArray)) ++ (b ++ (⟨#[32]⟩ : ByteArray)) := by
      unfold colon
      rw [ByteArray.append_assoc]
    have e2 : (a ++ (⟨#[58]⟩ : ByteArray)).size = a.size + 1 := by rw [ByteArray.size_append]; rfl
    have := walk_behind (a ++ (⟨#[58]⟩ : ByteArray)) (b ++ (⟨#[32]⟩ : ByteArray)) b.size (by rw [ByteArray.size_append]; omega) w2
    rw [e2, ← e] at this
    exact this
  have h32 : by_ (colon a b ++ (⟨#[32]⟩ : ByteArray)) (colon a b).size = 32 := by rw [by_append, if_neg (by omega), Nat.sub_self]; rfl
  have hr2 := ru_ascii (colon a b ++ (⟨#[32]⟩ : ByteArray)) (colon a b).size (by omega)
  refine stp_eq (Nat.zero_le _) ⟨?_, by omega, fun _ => ?_⟩
  · rw [hz]
    refine w3.trans (.cons _ _ (by omega) (by rw [hr.1, h58]; rfl) ?_)
    rw [hr.2]
    exact w4
  · rw [hr2.1, h32]
    decide
theorem split_cases (s : ByteArray) (h : (splitS s).2.2 = true) : (splitS s = (⟨#[]⟩, s, true) ∧ plainB s = true) ∨ (∃ i : Nat, i < s.size ∧ by_ s i = 58 ∧ splitS s = (s.extract 0 i, s.extract (i + 1) s.size, true) ∧ plainB (s.extract 0 i) = true ∧ plainB (s.extract (i + 1) s.size) = true) := by
  unfold splitS at h ⊢
  rcases fc_spec s with ⟨h1, h2⟩ | ⟨i, h1, h2, h3, h4⟩
  · rw [h1, if_neg (by decide)] at h ⊢
    by_cases g : plainB s = true
    · rw [if_pos g]
      exact .inl ⟨rfl, g⟩
    · rw [if_neg g] at h
      cases h
  · rw [h1, if_pos (by omega), Int.toNat_natCast] at h ⊢
    by_cases d : plainB (s.extract (i + 1) s.size) = true
    · rw [if_pos d] at h ⊢
      by_cases g : plainB (s.extract 0 i) = true
      · rw [if_pos g]
        exact .inr ⟨i, h2, h3, rfl, g, d⟩
      · rw [if_neg g] at h
        cases h
    · rw [if_neg d] at h
      cases h
theorem split_back (s : ByteArray) (hz : s.size ≤ 1000000000) (h : (splitS s).2.2 = true) : (if (splitS s).1.size = 0 then (splitS s).2.1 else colon (splitS s).1 (splitS s).2.1) = s ∧ plainB (splitS s).2.1 = true ∧ ((splitS s).1.size ≠ 0 → plainB (splitS s).1 = true) ∧ (splitS s).1.size ≤ s.size ∧ (splitS s).2.1.size ≤ s.size := by
  rcases split_cases s h with ⟨e, g⟩ | ⟨i, h2, h3, e, g, d⟩
  · rw [e]
    exact ⟨rfl, g, fun h => absurd rfl h, Nat.zero_le _, Nat.le_refl _⟩
  · rw [e]
    have hs := head_size s i (by omega)
    have hne := plain_ne _ g
    have ht := tail_size s (i + 1)
    refine ⟨?_, d, fun _ => g, by show (s.extract 0 i).size ≤ _; omega, by show (s.extract (i + 1) s.size).size ≤ _; omega⟩
    show (if (s.extract 0 i).size = 0 then _ else colon (s.extract 0 i) (s.extract (i + 1) s.size)) = s
    rw [if_neg (by omega)]
    apply bytesOf_inj
    unfold colon
    rw [bytesOf_append, bytesOf_append, bytesOf_extract, bytesOf_extract, List.drop_zero, size_bytesOf s, List.take_of_length_le (Nat.le_refl _), List.append_assoc]
    have hl : i < (bytesOf s).length := by rw [← size_bytesOf]; exact h2
    have e58 : (bytesOf s)[i] = 58 := by
      have := by_bt s i
      rw [bt_nat, h3, List.getD_eq_getElem?_getD, List.getElem?_eq_getElem hl] at this
      exact this
    have : bytesOf (⟨#[58]⟩ : ByteArray) = [58] := rfl
    rw [this, ← e58]
    show (bytesOf s).take i ++ ((bytesOf s)[i] :: (bytesOf s).drop (i + 1)) = _
    rw [← List.drop_eq_getElem_cons hl, List.take_append_drop]
theorem NameParts : oriellaw03_NameParts.Pure := by
  intro s t hs ht
  apply Evn.get
  refine Evn.congr (fun k => by rw [oriellaw03_NameParts.f]) ?_
  refine Evn.bind awake_ev (Evn.iteT rfl ?_)
  have out : Evn (fun k => oriellaw03_NameParts.j0 k s t true) true := by
    refine Evn.succ (fun k => by rw [oriellaw03_NameParts.j0]) ?_
    exact Evn.iteT rfl (Evn.bind awake_ev (Evn.ret _))
  by_cases h1 : (s.size : Int) > 200
  · exact Evn.iteT h1 out
  refine Evn.iteF h1 ?_
  by_cases h2 : (t.size : Int) > 200
  · rw [decide_eq_true h2]; exact out
  rw [decide_eq_false h2]
  have hz : s.size ≤ 200 := by omega
  have hy : t.size ≤ 200 := by omega
  -- names of any texts
  have j2t : Evn (fun k => oriellaw03_NameParts.j2 k s t true) true := by
    refine Evn.succ (fun k => by rw [oriellaw03_NameParts.j2]) ?_
    exact Evn.iteT rfl (Evn.ret _)
  have j1f : Evn (fun k => oriellaw03_NameParts.j1 k s t false) true := by
    refine Evn.succ (fun k => by rw [oriellaw03_NameParts.j1]) ?_
    refine Evn.iteF (by decide) (Evn.bind (plain_ev s) ?_)
    by_cases ps : plainB s = true
    · refine Evn.iteT ps (Evn.bind (plain_ev t) ?_)
      by_cases pt : plainB t = true
      · rw [pt]
        have ns := plain_ne s ps
        have nt := plain_ne t pt
        have js : name_Join.f s t = some (colon s t) := by rw [join_evn s t (by omega) (by omega), if_neg (by omega)]; rfl
        have jt : name_Join.f t s = some (colon t s) := by rw [join_evn t s (by omega) (by omega), if_neg (by omega)]; rfl
        have z1 := colon_size s t
        have z2 := colon_size t s
        have j3 : name_Join.f s (colon t s) = some (colon s (colon t s)) := by rw [join_evn s _ (by omega) (by omega), if_neg (by omega)]; rfl
        have z3 := colon_size s (colon t s)
        have zb : (colon s t ++ (⟨#[32]⟩ : ByteArray)).size = s.size + 1 + t.size + 1 := by rw [ByteArray.size_append, z1]; rfl
        have s1 : Evn (fun k => name_Split.f k (colon s t)) (splitS (colon s t)) := split_ev _ (by omega)
        have s3 : Evn (fun k => name_Split.f k (colon s (colon t s))) (splitS (colon s (colon t s))) := split_ev _ (by omega)
        have c1 : Evn (fun k => name_Cut.f k (colon s t ++ (⟨#[32]⟩ : ByteArray)) 0) (cutS (colon s t ++ (⟨#[32]⟩ : ByteArray)) 0) := cut_ev _ (by omega) 0 (Nat.zero_le _)
        refine Evn.succ (fun k => by rw [oriellaw03_NameParts.j2]) ?_
        refine Evn.iteF (by decide) (Evn.bind (ev_some js) (Evn.bind s1 (Evn.bind (ev_some jt) (Evn.bind (ev_some j3) (Evn.bind s3 (Evn.bind (ev_some js) (Evn.iteT (by omega) (Evn.bind c1 ?_))))))))
        rw [split_colon s t ps pt, split_three s t s ps]
        have hx : (colon s t ++ (⟨#[32]⟩ : ByteArray)).extract 0 (colon s t ++ (⟨#[32]⟩ : ByteArray)).size = colon s t ++ (⟨#[32]⟩ : ByteArray) := by
          apply bytesOf_inj
          rw [bytesOf_extract, List.drop_zero, size_bytesOf (colon s t ++ (⟨#[32]⟩ : ByteArray)), List.take_of_length_le (Nat.le_refl _)]
        have hc : cutS (colon s t ++ (⟨#[32]⟩ : ByteArray)) 0 = (colon s t, ((colon s t).size : Int)) := by
          unfold cutS
          rw [hx, cut_colon s t ps pt, Nat.zero_add]
          have : (colon s t ++ (⟨#[32]⟩ : ByteArray)).extract 0 (colon s t).size = colon s t := by
            apply bytesOf_inj
            rw [bytesOf_extract, List.drop_zero, bytesOf_append, size_bytesOf (colon s t), List.take_left]
          rw [this]
        rw [hc]
        have z4 : (s ++ (⟨#[58]⟩ : ByteArray)).size = s.size + 1 := by rw [ByteArray.size_append]; rfl
        refine Evn.iteT rfl (Evn.iteT rfl (Evn.iteT rfl (Evn.iteF (by decide) (Evn.iteT (by omega) (Evn.iteT (by omega) (Evn.iteT rfl ?_))))))
        rw [beq_self_eq_true]
        exact Evn.ret _
      · rw [Bool.eq_false_iff.mpr pt]; exact j2t
    · exact Evn.iteF ps j2t
  refine Evn.succ (fun k => by rw [oriellaw03_NameParts.j0]) ?_
  refine Evn.iteF (by decide) (Evn.bind (split_ev s (by omega)) ?_)
  by_cases c : (splitS s).2.2 = true
  · obtain ⟨b1, b2, b3, b4, b5⟩ := split_back s (by omega) c
    refine Evn.iteT c (Evn.bind (ev_some (join_evn _ _ (by omega) (by omega))) (Evn.iteT ?_ (Evn.bind (plain_ev _) (Evn.iteT b2 ?_))))
    · show (if (splitS s).1.size = 0 then (splitS s).2.1 else colon (splitS s).1 (splitS s).2.1).toList = _
      rw [b1]
    · by_cases e : (splitS s).1.size = 0
      · exact Evn.iteT ((toList_nil _).mpr e) j1f
      · refine Evn.iteF (fun h => e ((toList_nil _).mp h)) (Evn.bind (plain_ev _) ?_)
        rw [b3 e]
        exact j1f
  · exact Evn.iteF c j1f
end Go.Proofs.Ytccjkjmhmbcleaa.Pure
