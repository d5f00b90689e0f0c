/- UtfBack: runes that have bytes are decoded as they were; bytes that are decoded, put again, are these. -/
import Derived.Test.YtblofllbbcpeiaaX1
import Derived.Test.YtblofllbbcpeiaaX2
import Derived.Test.YtblofllbbcpeiaaX3
import Derived.Test.YtblofllbbcpeiaaX6
import Derived.Test.YtblofllbbcpeiaaX8
import Derived.Test.YtblofllbbcpeiaaUtfJ
set_option linter.unusedVariables false
set_option linter.unusedSimpArgs false
namespace Go.Proofs.Ytblofllbbcpeiaa.Pure
open Go.RowKit Go.Proofs.YtblofllbbcpeiaaW.PrintWords Go.Proofs.YtblofllbbcpeiaaW.PrintLast Go.Proofs.Ytblofllbbcpeiaa.X Go.Proofs.Ytblofllbbcpeiaa.E Go.Proofs.Ytblofllbbcpeiaa.Utf
theorem Dec_count {l rs rest : List Int} (h : Dec l rs rest) : rs.length ≤ l.length := by
  rw [h.eq, List.length_append, List.length_flatMap]
  have : ∀ (t : List Int), (∀ r ∈ t, putL r ≠ []) → t.length ≤ (t.map fun r => (putL r).length).sum := by
    intro t
    induction t with
    | nil => intro _; simp
    | cons a t ih =>
      intro ht
      have h1 := putL_pos (ht a List.mem_cons_self)
      have h2 := ih (fun r hr => ht r (List.mem_cons_of_mem _ hr))
      simp only [List.length_cons, List.map_cons, List.sum_cons]
      omega
  have := this rs h.ok
  omega
theorem len_flat (l : List Int) : (l.flatMap putR).length ≤ 4 * l.length := by
  induction l with
  | nil => simp
  | cons a t ih =>
    have := putR_len a
    simp only [List.flatMap_cons, List.length_append, List.length_cons]
    omega
/-- the second half: runes that have bytes -/
theorem back_runes (l : List Int) (hl : l.length ≤ 100) (hw : ∀ x ∈ l, (Lit.int .i32 x).wf = true) : ∀ (d i : Nat), i + d = l.length → (∀ j, j < i → ∀ h : j < l.length, putL l[j] ≠ []) → Evn (fun k => oriellaw01_UtfBack.l0 k l i) true := by
  intro d
  induction d with
  | zero =>
    intro i hi hall
    have hok : ∀ r ∈ l, putL r ≠ [] := by
      intro r hr
      obtain ⟨j, hj, rfl⟩ := List.getElem_of_mem hr
      exact hall j (by omega) hj
    have hfl := flatMap_putR l hok
    have hlen := len_flat l
    have hsz := strOfNums_size (l.flatMap putR)
    have hby := bytesOf_nums (l.flatMap putR) (putR_range l)
    have hdec : Dec (bytesOf (strOfNums (l.flatMap putR))) l [] := by
      rw [hby, hfl]
      exact ⟨by simp, hok, .inl rfl⟩
    refine Evn.succ (h := fun k => (utf_Put.f k l).bind fun t246 => ((utf_All.f k t246).bind fun bt247 => (if bt247.2.2 = 0 then (if bt247.2.1 = (t246.size : Int) then ((orielref01_Same.f k bt247.1 l).bind fun t252 => (some t252)) else (some false)) else (some false)))) (fun k => by simp only [oriellaw01_UtfBack.l0]; rw [if_neg (by omega)]) ?_
    refine Evn.bind (utfPut_ev l (by omega)) (Evn.bind (utfAll_ev _ (by omega) l [] hdec) ?_)
    refine Evn.iteT rfl (Evn.iteT ?_ (Evn.bind (same_ev l l (by omega)) ?_))
    · rw [hsz, hfl]
    · simp only [beq_self_eq_true]
      exact Evn.ret _
  | succ d ih =>
    intro i hi hall
    have h1 : i < l.length := by omega
    have hwf := wf_bd_i32 (hw l[i] (List.getElem_mem h1))
    refine Evn.succ (h := fun k => (orielref01_Put.f k l[i]).bind fun t243 => (if (t243.length : Int) = 0 then (some true) else (oriellaw01_UtfBack.l0 k l ((i + 1 : Nat) : Int)))) (fun k => ?_) (Evn.bind (refPut_ev _) ?_)
    · simp only [oriellaw01_UtfBack.l0]
      rw [if_pos (by omega), if_pos (by omega), rd_at l i h1, w64 (by omega) (by omega), w64 (x := (i : Int) + 1) (by omega) (by omega)]
      rfl
    by_cases hp : putL l[i] = []
    · exact Evn.iteT (by rw [hp]; rfl) (Evn.ret _)
    · have := putL_pos hp
      refine Evn.iteF (by omega) (ih (i + 1) (by omega) ?_)
      intro j hj hjl
      by_cases e : j = i
      · subst e; exact hp
      · exact hall j (by omega) hjl
theorem UtfBack : oriellaw01_UtfBack.Pure := by
  intro l s hm hl4 hw hs
  apply Evn.get
  refine Evn.bind awake_ev ?_
  simp only [if_true]
  have early : Evn (fun k => oriellaw01_UtfBack.j0 k l s true) true :=
    Evn.succ (fun k => by simp only [oriellaw01_UtfBack.j0, if_true]) (Evn.bind awake_ev (Evn.ret _))
  by_cases hl : (l.length : Int) > 100
  · exact Evn.iteT hl early
  refine Evn.iteF hl ?_
  by_cases h : (s.size : Int) > 200
  · rw [decide_eq_true h]
    exact early
  rw [decide_eq_false h]
  have hz : s.size ≤ 1000000000 := by omega
  obtain ⟨rs, rest, hd⟩ := Dec.exists (bytesOf s).length (bytesOf s) (Nat.le_refl _) (bytesOf_range s)
  have hcount := Dec_count hd
  have hlen := congrArg List.length hd.eq
  rw [bytesOf_length] at hcount
  rw [bytesOf_length, List.length_append] at hlen
  have hj1 : Evn (fun k => oriellaw01_UtfBack.j1 k l false) true :=
    Evn.succ (h := fun k => oriellaw01_UtfBack.l0 k l ((0 : Nat) : Int)) (fun k => by simp only [oriellaw01_UtfBack.j1]; rw [if_neg (by decide)]; rfl) (back_runes l (by omega) hw l.length 0 (by omega) (fun j hj => absurd hj (Nat.not_lt_zero j)))
  refine Evn.succ (h := fun k => (utf_All.f k s).bind fun bt236 => ((utf_Put.f k bt236.1).bind fun t241 => (if 0 ≤ bt236.2.1 then (if bt236.2.1 ≤ (s.size : Int) then (if t241.toList = (s.extract 0 (bt236.2.1 : Int).toNat).toList then (if bt236.2.2 = 0 then (oriellaw01_UtfBack.j1 k l (bt236.2.1 != (s.size : Int))) else (oriellaw01_UtfBack.j1 k l false)) else (oriellaw01_UtfBack.j1 k l true)) else (none)) else (none)))) (fun k => by simp only [oriellaw01_UtfBack.j0]; rw [if_neg (by decide)]) ?_
  refine Evn.bind (utfAll_ev s hz rs rest hd) (Evn.bind (utfPut_ev rs (by omega)) ?_)
  have hx : strOfNums (rs.flatMap putR) = s.extract 0 ((rs.flatMap putL).length : Int).toNat := by
    apply bytesOf_inj
    rw [bytesOf_nums _ (putR_range rs), bytesOf_extract, flatMap_putR rs hd.ok, hd.eq]
    simp
  refine Evn.iteT (by simp only; omega) (Evn.iteT (by simp only; omega) (Evn.iteT (by simp only; rw [hx]) ?_))
  by_cases he : rest = []
  · have e0 : errL rest = 0 := by unfold errL; rw [if_pos he]
    refine Evn.iteT e0 ?_
    have : ((((rs.flatMap putL).length : Nat) : Int) != (s.size : Int)) = false := by
      rw [bne_eq_false_iff_eq]
      rw [he] at hlen
      simp only [List.length_nil, Nat.add_zero] at hlen
      omega
    simp only
    rw [this]
    exact hj1
  · have e0 : errL rest ≠ 0 := by unfold errL; rw [if_neg he]; exact hd.stop.resolve_left he
    exact Evn.iteF e0 hj1
end Go.Proofs.Ytblofllbbcpeiaa.Pure
