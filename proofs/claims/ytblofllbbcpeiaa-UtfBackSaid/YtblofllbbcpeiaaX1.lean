/- Printed by a program of this session (xprint) out of the kit's print, with functions proved by hand. -/
import Derived.Test.YtblofllbbcpeiaaX0
namespace Go.Proofs.Ytblofllbbcpeiaa.X
open Go.RowKit Go.Proofs.YtblofllbbcpeiaaW.PrintWords Go.Proofs.YtblofllbbcpeiaaW.PrintLast Go.Proofs.YtblofllbbcpeiaaW.PrintMore Go.Proofs.YtblofllbbcpeiaaW.XConv
attribute [local go_sem] max2_int min2_int max_two min_two max_three min_three max_four min_four   -- for this text's walks alone
set_option linter.unusedVariables false
set_option linter.unusedSimpArgs false

/-! ### utf_Rune: function 9 -/
open Go.Proofs.Ytblofllbbcpeiaa.Utf
abbrev formsV : Value := .agg #[.int .u8 128, .int .u8 0, .int .i32 0, .int .u8 224, .int .u8 192, .int .i32 128, .int .u8 240, .int .u8 224, .int .i32 2048, .int .u8 248, .int .u8 240, .int .i32 65536]
set_option maxHeartbeats 8000000 in
theorem forms_any (w : World) : Calls Try.prog 18 #[] w fun e w' => e = .returned formsV ∧ Below w.heap.size w w' := by
  go_enter Try.func18, Try.ntmps18
  go_wp2
  exact bodyPost_ret (v := formsV) (by simp [results, Try.results18, go_sem]) rfl ⟨rfl, by repeat (first | exact Below.refl _ _ | apply below_alloc)⟩
theorem forms_at (n : Nat) (hn : n ≤ 3) : ∀ w, (Instr.index 45 formsV (.int .i64 n)).run Try.prog w = .ok (.agg #[.int .u8 (msk n), .int .u8 (mrk n), .int .i32 (lst n)]) w := by
  have : n = 0 ∨ n = 1 ∨ n = 2 ∨ n = 3 := by omega
  rcases this with rfl | rfl | rfl | rfl <;> exact fun _ => by kernel_rfl
set_option maxHeartbeats 8000000 in
theorem span_any (v t L H : Int) (w : World) (hv : 0 ≤ v) (ht : 0 ≤ t) (ht3 : t ≤ 3) (hb : (v + 1) * 64 ^ t.toNat ≤ 2097152) (hL : v * 64 ^ t.toNat = L) (hH : L + (64 ^ t.toNat - 1) = H) :
    Calls Try.prog 19 #[.int .i32 v, .int .i64 t] w fun e w' => e = .returned (.tuple #[.int .i32 L, .int .i32 H]) ∧ Drawn0 w w' := by
  have ht' : t = 0 ∨ t = 1 ∨ t = 2 ∨ t = 3 := by omega
  rcases ht' with rfl | rfl | rfl | rfl
  all_goals simp at hb hL hH
  · subst hL
    have q := i32_or0 v hv (by omega)
    obtain rfl : v = H := by omega
    go_enter Try.func19, Try.ntmps19
    go_wp2
    repeat (go_quiet (fail); try go_wp2)
    go_ret2
    exact ⟨by simp [*], by repeat (first | exact Drawn0.refl _ | apply Drawn0.step)⟩
  · have q : bits .or .i32 L 63 = H := by rw [i32_or6] <;> omega
    have q' : bits .or .i32 (v * 64) 63 = H := by rw [hL]; exact q
    have HL := Aside0.mk hL; have HH := Aside0.mk hH; clear hL hH
    have b1 : v ≤ 100000 := by omega
    go_enter Try.func19, Try.ntmps19
    go_wp2
    repeat (go_quiet (fail); try go_wp2)
    go_ret2
    exact ⟨by simp [q', HL.out], by repeat (first | exact Drawn0.refl _ | apply Drawn0.step)⟩
  · have q : bits .or .i32 L 4095 = H := by rw [i32_or12] <;> omega
    have q' : bits .or .i32 (v * 4096) 4095 = H := by rw [hL]; exact q
    have HL := Aside0.mk hL; have HH := Aside0.mk hH; clear hL hH
    have b1 : v ≤ 10000 := by omega
    go_enter Try.func19, Try.ntmps19
    go_wp2
    repeat (go_quiet (fail); try go_wp2)
    go_ret2
    exact ⟨by simp [q', HL.out], by repeat (first | exact Drawn0.refl _ | apply Drawn0.step)⟩
  · have q : bits .or .i32 L 262143 = H := by rw [i32_or18] <;> omega
    have q' : bits .or .i32 (v * 262144) 262143 = H := by rw [hL]; exact q
    have HL := Aside0.mk hL; have HH := Aside0.mk hH; clear hL hH
    have b1 : v ≤ 100 := by omega
    go_enter Try.func19, Try.ntmps19
    go_wp2
    repeat (go_quiet (fail); try go_wp2)
    go_ret2
    exact ⟨by simp [q', HL.out], by repeat (first | exact Drawn0.refl _ | apply Drawn0.step)⟩
set_option maxHeartbeats 8000000 in
set_option maxRecDepth 100000 in
theorem rune_in (s : ByteArray) (p : Int) (w : World) (h0 : 0 ≤ p) (h1 : p < (s.size : Int)) (hs : s.size ≤ 140737488351232) (r1 r2 r3 : Int) (hr : rune s p = (r1, r2, r3)) :
    Calls Try.prog 9 #[.string s, .int .i64 p] w fun e w' => e = .returned (.tuple #[.int .i32 r1, .int .i64 r2, .int .i64 r3]) ∧ Below w.heap.size w w' := by
  have g0 : decide (p < 0) = false := decide_eq_false (by omega)
  have g1 : decide ((s.size : Int) ≤ p) = false := decide_eq_false (by omega)
  have HR := Aside0.mk hr; clear hr
  go_enter Try.func9, Try.ntmps9
  go_wp2_with (go_at_call 18; refine (forms_any _).mono ?_; rintro e w1 ⟨rfl, hb⟩)
  have HB := Aside0.mk hb; clear hb
  go_loopg [22] 5 (fun kq v22 w' => ∃ n : Int, v22 = .int .i64 n ∧ Aside0 (0 ≤ n ∧ n.toNat ≤ cls (bt s p) ∧ n + kq = 5) ∧ Aside0 (Below w.heap.size w w'))
  case atStart => exact ⟨0, by first | rfl | simp, ⟨by omega, Nat.zero_le _, rfl⟩, HB⟩
  case round =>
    obtain ⟨n, rfl, HN, HB1⟩ := hrel
    have p1 : 0 ≤ p := h0
    have hx := bt_at s p
    have p2 := eq_true h0
    have p3 := eq_true h1
    by_cases h4 : n = 4
    · subst h4
      go_wp2
      have hn := HN.out
      have hr := HR.out
      have : cls (bt s p) = 4 := by
        have := cls_le (bt s p)
        omega
      rw [rune, if_neg (by omega), if_neg (by omega)] at hr
      simp only [Prod.mk.injEq] at hr
      obtain ⟨rfl, rfl, rfl⟩ := hr
      go_ret3
      exact ⟨rfl, HB1.out⟩
    · have hn := HN.out
      have hn3 : n ≤ 3 := by
        have := cls_le (bt s p)
        omega
      have hn0 : 0 ≤ n := hn.1
      obtain ⟨m, rfl⟩ := Int.eq_ofNat_of_zero_le hn0
      have i0 := forms_at m (by omega)
      have lt4 : decide ((m : Int) < 4) = true := decide_eq_true (by omega)
      have hbr := bt_range s p
      clear hn
      by_cases hc : cls (bt s p) = m
      · have q0 := and_eq _ hbr.1 hbr.2 m (by omega) hc
        have q1 := andNot_eq _ hbr.1 hbr.2 m (by omega) hc
        obtain ⟨v0, hv0⟩ : ∃ v0, bt s p - mrk m = v0 := ⟨_, rfl⟩
        rw [hv0] at q1
        have HV0 := Aside0.mk hv0; clear hv0
        have HC := Aside0.mk hc; clear hc
        have hv0a : 0 ≤ v0 := by have := cls_lo _ hbr.1 hbr.2 (by rw [HC.out]; omega); rw [HC.out, HV0.out] at this; exact this.1
        have hv0b : v0 < 128 := by have := cls_lo _ hbr.1 hbr.2 (by rw [HC.out]; omega); rw [HC.out, HV0.out] at this; exact this.2.1
        go_wp2
        go_quiet (fail)
        go_wp2
        go_quiet (fail)
        go_wp2
        have HI : (v0 + 1) * 64 ^ m ≤ 2097152 := by
          have hh := cls_lo _ hbr.1 hbr.2 (by rw [HC.out]; omega)
          rw [HC.out, HV0.out] at hh
          have : m = 0 ∨ m = 1 ∨ m = 2 ∨ m = 3 := by omega
          rcases this with rfl | rfl | rfl | rfl <;> simp at hh ⊢ <;> omega
        have HI := Aside0.mk HI
        have hm3 : m ≤ 3 := by omega
        clear hn3 hn0 i0 lt4 q0 q1 p1 p2 p3 hx
        obtain ⟨wo, rfl⟩ : ∃ wo : World, wo = wr := ⟨_, rfl⟩
        go_loopg [9, 10] m (fun kq v9 v10 w' => ∃ (v h : Int) (z : Nat), v9 = .int .i32 v ∧ v10 = .int .i64 h ∧ w' = (wo.alloc (.cells #[.int .u8 (msk m), .int .u8 (mrk m), .int .i32 (lst m)] 44)).drewN z ∧ Aside0 (rTail s p kq v h = rTail s p m v0 1 ∧ (v + 1) * 64 ^ kq ≤ 2097152) ∧ Aside0 (h + kq = m + 1 ∧ 1 ≤ h ∧ 0 ≤ v))
        case atStart => exact ⟨v0, 1, _, rfl, rfl, World.drewN_drewN .., ⟨rfl, HI.out⟩, ⟨by omega, by omega, by omega⟩⟩
        case round =>
          obtain ⟨v, h, z, rfl, rfl, rfl, HT, HH⟩ := hrel
          have hh := HH.out
          have v1 : 0 ≤ v := hh.2.2
          have x1 : 1 ≤ h := hh.2.1
          have x2 : h ≤ m + 1 := by omega
          have ht := HT.out
          have v2 : v < 2097152 := by
            have : (1 : Int) ≤ 64 ^ gk := by exact_mod_cast Nat.one_le_pow _ _ (by decide)
            have := Int.mul_le_mul_of_nonneg_left this (show 0 ≤ v + 1 by omega)
            omega
          have hbr2 := bt_range s (p + h)
          by_cases hstep : h ≤ m ∧ p + h < (s.size : Int) ∧ 128 ≤ bt s (p + h) ∧ bt s (p + h) < 192
          · obtain ⟨e1, e2, e3, e4⟩ := hstep
            obtain ⟨g, rfl⟩ : ∃ g, gk = g + 1 := ⟨gk - 1, by omega⟩
            have ht1 := ht.1
            rw [rTail, if_pos ⟨e2, e3, e4⟩] at ht1
            have ht2 : (v * 64 + bt s (p + h) % 64 + 1) * 64 ^ g ≤ 2097152 := by
              have := ht.2
              rw [Int.pow_succ, Int.mul_comm (64 ^ g) 64, ← Int.mul_assoc] at this
              refine Int.le_trans (Int.mul_le_mul_of_nonneg_right ?_ (by exact_mod_cast Nat.zero_le _)) this
              omega
            have u1 := tail_yes _ ⟨e3, e4⟩
            have u2 := u8_and63 _ hbr2.1 (by omega : bt s (p + h) < 256)
            have u3 : bits .or .i32 (v * 64) (bt s (p + h) % 64) = v * 64 + bt s (p + h) % 64 := by rw [i32_or6] <;> omega
            have d1 : decide (h ≤ (m : Int)) = true := decide_eq_true e1
            have d2 : decide (p + h < (s.size : Int)) = true := decide_eq_true e2
            have hx := bt_at s (p + h)
            have d3 := eq_true (show 0 ≤ p + h by omega)
            have d4 := eq_true e2
            have HT1 := Aside0.mk ht1
            have HT2 := Aside0.mk ht2
            clear ht ht1 ht2 hh e1
            go_wp2
            go_roundg g
            case measure => omega
            case rel => exact ⟨_, _, _, rfl, rfl, rfl, ⟨HT1.out, HT2.out⟩, ⟨by have := HH.out; omega, by omega, by omega⟩⟩
          · have hfin : rTail s p gk v h = (v, h) := by
              cases gk with
              | zero => rfl
              | succ g => rw [rTail, if_neg (fun hc => hstep ⟨by omega, hc.1, hc.2.1, hc.2.2⟩)]
            have he := HR.out
            rw [rune, if_neg (by omega), HC.out, if_pos hm3, HV0.out, ← ht.1, hfin] at he
            have hg : ((m : Int) + 1 - h).toNat = gk := by omega
            have hb := ht.2
            rw [← hg] at hb
            obtain ⟨L, hL⟩ : ∃ L, v * 64 ^ ((m : Int) + 1 - h).toNat = L := ⟨_, rfl⟩
            obtain ⟨H, hH⟩ : ∃ H, L + (64 ^ ((m : Int) + 1 - h).toNat - 1) = H := ⟨_, rfl⟩
            simp only [rEnd, hL, hH] at he
            have HSP := fun W => span_any v ((m : Int) + 1 - h) L H W v1 (by omega) (by omega) hb hL hH
            have HS := Aside0.mk HSP
            clear HSP hb hL hH hg ht hh hfin HR HT
            have hex : (¬ h ≤ m) ∨ (h ≤ m ∧ ¬ p + h < (s.size : Int)) ∨ (h ≤ m ∧ p + h < (s.size : Int) ∧ ¬ (128 ≤ bt s (p + h) ∧ bt s (p + h) < 192)) := by omega
            have x3 : 0 ≤ p + h := by omega
            have way : (H < lst m ∧ r1 = 0 ∧ r2 = 0 ∧ r3 = 2) ∨ (¬ H < lst m ∧ 1114111 < L ∧ r1 = 0 ∧ r2 = 0 ∧ r3 = 2) ∨ (¬ H < lst m ∧ ¬ 1114111 < L ∧ 55296 ≤ L ∧ H ≤ 57343 ∧ r1 = 0 ∧ r2 = 0 ∧ r3 = 2)
                ∨ (¬ H < lst m ∧ ¬ 1114111 < L ∧ ((55296 ≤ L ∧ ¬ H ≤ 57343) ∨ ¬ 55296 ≤ L) ∧ ((h = m + 1 ∧ r1 = v ∧ r2 = h ∧ r3 = 0) ∨ (¬ h = m + 1 ∧ p + h = s.size ∧ r1 = 0 ∧ r2 = 0 ∧ r3 = 7) ∨ (¬ h = m + 1 ∧ ¬ p + h = s.size ∧ r1 = 0 ∧ r2 = 0 ∧ r3 = 2))) := by
              by_cases a1 : H < lst m
              · rw [if_pos a1] at he; simp only [Prod.mk.injEq] at he; left; omega
              rw [if_neg a1] at he
              by_cases a2 : 1114111 < L
              · rw [if_pos a2] at he; simp only [Prod.mk.injEq] at he; right; left; omega
              rw [if_neg (by omega)] at he
              by_cases a3 : L ≥ 55296 ∧ H ≤ 57343
              · rw [if_pos a3] at he; simp only [Prod.mk.injEq] at he; right; right; left; omega
              rw [if_neg a3] at he
              right; right; right
              by_cases a4 : h = m + 1
              · rw [if_pos a4] at he; simp only [Prod.mk.injEq] at he; omega
              rw [if_neg a4] at he
              by_cases a5 : p + h = s.size
              · rw [if_pos a5] at he; simp only [Prod.mk.injEq] at he; omega
              · rw [if_neg a5] at he; simp only [Prod.mk.injEq] at he; omega
            clear he
            clear hstep
            have HB2 := Aside0.mk HB1.out
            have hex2 : (decide (h ≤ (m : Int)) = false) ∨ (decide (h ≤ (m : Int)) = true ∧ decide (p + h < (s.size : Int)) = false) ∨ (decide (h ≤ (m : Int)) = true ∧ decide (p + h < (s.size : Int)) = true ∧ (p + h < (s.size : Int)) = True ∧ (bits .and .u8 (bt s (p + h)) 192 == 128) = false) := by
              rcases hex with d1 | ⟨d1, d2⟩ | ⟨d1, d2, d3⟩
              · exact .inl (decide_eq_false d1)
              · exact .inr (.inl ⟨decide_eq_true d1, decide_eq_false d2⟩)
              · exact .inr (.inr ⟨decide_eq_true d1, decide_eq_true d2, eq_true d2, tail_no _ hbr2.1 hbr2.2 d3⟩)
            clear hex hbr2
            have hx := bt_at s (p + h)
            have d3 := eq_true x3
            rcases way with ⟨a1, rfl, rfl, rfl⟩ | ⟨a1, a2, rfl, rfl, rfl⟩ | ⟨a1, a2, a3, a4, rfl, rfl, rfl⟩ | ⟨a1, a2, a34, a5⟩
            · replace a1 := decide_eq_true a1
              rcases hex2 with d1 | ⟨d1, d2⟩ | ⟨d1, d2, d4, u1⟩
              all_goals
                go_wp2_with (go_at_call 19; refine (HS.out _).mono ?_; rintro e w1 ⟨rfl, m_, rfl⟩)
                go_ret3
                exact ⟨rfl, by repeat (first | exact HB2.out | apply below_alloc | apply pw_below_drewN | apply below_drew1)⟩
            · replace a1 := decide_eq_false a1
              replace a2 := decide_eq_true a2
              rcases hex2 with d1 | ⟨d1, d2⟩ | ⟨d1, d2, d4, u1⟩
              all_goals
                go_wp2_with (go_at_call 19; refine (HS.out _).mono ?_; rintro e w1 ⟨rfl, m_, rfl⟩)
                go_ret3
                exact ⟨rfl, by repeat (first | exact HB2.out | apply below_alloc | apply pw_below_drewN | apply below_drew1)⟩
            · replace a1 := decide_eq_false a1
              replace a2 := decide_eq_false a2
              replace a3 := decide_eq_true a3
              replace a4 := decide_eq_true a4
              rcases hex2 with d1 | ⟨d1, d2⟩ | ⟨d1, d2, d4, u1⟩
              all_goals
                go_wp2_with (go_at_call 19; refine (HS.out _).mono ?_; rintro e w1 ⟨rfl, m_, rfl⟩)
                go_ret3
                exact ⟨rfl, by repeat (first | exact HB2.out | apply below_alloc | apply pw_below_drewN | apply below_drew1)⟩
            · replace a1 := decide_eq_false a1
              replace a2 := decide_eq_false a2
              rcases a34 with ⟨a3, a4⟩ | a3
              · replace a3 := decide_eq_true a3
                replace a4 := decide_eq_false a4
                rcases a5 with ⟨a5, rfl, rfl, rfl⟩ | ⟨a5, a6, rfl, rfl, rfl⟩ | ⟨a5, a6, rfl, rfl, rfl⟩
                · replace a5 := beq_iff_eq.mpr a5
                  rcases hex2 with d1 | ⟨d1, d2⟩ | ⟨d1, d2, d4, u1⟩
                  all_goals
                    go_wp2_with (go_at_call 19; refine (HS.out _).mono ?_; rintro e w1 ⟨rfl, m_, rfl⟩)
                    go_ret3
                    exact ⟨rfl, by repeat (first | exact HB2.out | apply below_alloc | apply pw_below_drewN | apply below_drew1)⟩
                · replace a5 := beq_eq_false_iff_ne.mpr a5
                  replace a6 := beq_iff_eq.mpr a6
                  rcases hex2 with d1 | ⟨d1, d2⟩ | ⟨d1, d2, d4, u1⟩
                  all_goals
                    go_wp2_with (go_at_call 19; refine (HS.out _).mono ?_; rintro e w1 ⟨rfl, m_, rfl⟩)
                    go_ret3
                    exact ⟨rfl, by repeat (first | exact HB2.out | apply below_alloc | apply pw_below_drewN | apply below_drew1)⟩
                · replace a5 := beq_eq_false_iff_ne.mpr a5
                  replace a6 := beq_eq_false_iff_ne.mpr a6
                  rcases hex2 with d1 | ⟨d1, d2⟩ | ⟨d1, d2, d4, u1⟩
                  all_goals
                    go_wp2_with (go_at_call 19; refine (HS.out _).mono ?_; rintro e w1 ⟨rfl, m_, rfl⟩)
                    go_ret3
                    exact ⟨rfl, by repeat (first | exact HB2.out | apply below_alloc | apply pw_below_drewN | apply below_drew1)⟩
              · replace a3 := decide_eq_false a3
                rcases a5 with ⟨a5, rfl, rfl, rfl⟩ | ⟨a5, a6, rfl, rfl, rfl⟩ | ⟨a5, a6, rfl, rfl, rfl⟩
                · replace a5 := beq_iff_eq.mpr a5
                  rcases hex2 with d1 | ⟨d1, d2⟩ | ⟨d1, d2, d4, u1⟩
                  all_goals
                    go_wp2_with (go_at_call 19; refine (HS.out _).mono ?_; rintro e w1 ⟨rfl, m_, rfl⟩)
                    go_ret3
                    exact ⟨rfl, by repeat (first | exact HB2.out | apply below_alloc | apply pw_below_drewN | apply below_drew1)⟩
                · replace a5 := beq_eq_false_iff_ne.mpr a5
                  replace a6 := beq_iff_eq.mpr a6
                  rcases hex2 with d1 | ⟨d1, d2⟩ | ⟨d1, d2, d4, u1⟩
                  all_goals
                    go_wp2_with (go_at_call 19; refine (HS.out _).mono ?_; rintro e w1 ⟨rfl, m_, rfl⟩)
                    go_ret3
                    exact ⟨rfl, by repeat (first | exact HB2.out | apply below_alloc | apply pw_below_drewN | apply below_drew1)⟩
                · replace a5 := beq_eq_false_iff_ne.mpr a5
                  replace a6 := beq_eq_false_iff_ne.mpr a6
                  rcases hex2 with d1 | ⟨d1, d2⟩ | ⟨d1, d2, d4, u1⟩
                  all_goals
                    go_wp2_with (go_at_call 19; refine (HS.out _).mono ?_; rintro e w1 ⟨rfl, m_, rfl⟩)
                    go_ret3
                    exact ⟨rfl, by repeat (first | exact HB2.out | apply below_alloc | apply pw_below_drewN | apply below_drew1)⟩
      · have q0 := and_ne _ hbr.1 hbr.2 m (by omega) hc
        have HC := Aside0.mk hc; clear hc
        go_wp2
        go_quiet (fail)
        go_wp2
        go_roundg (gk - 1)
        case measure => have := HN.out; omega
        case rel => exact ⟨_, rfl, ⟨by have := HN.out; have := HC.out; omega⟩, ⟨by repeat (first | exact HB1.out | apply below_alloc | apply pw_below_drewN | apply below_drew1)⟩⟩
set_option maxHeartbeats 8000000 in
theorem rune_out (s : ByteArray) (p : Int) (w : World) (h : p < 0 ∨ (s.size : Int) ≤ p) :
    Calls Try.prog 9 #[.string s, .int .i64 p] w fun e w' => e = .returned (.tuple #[.int .i32 0, .int .i64 0, .int .i64 7]) ∧ Below w.heap.size w w' := by
  by_cases h0 : p < 0
  · replace h0 := decide_eq_true h0
    clear h
    go_enter Try.func9, Try.ntmps9
    go_wp2
    go_ret3
    exact ⟨rfl, Below.refl _ _⟩
  · have h1 := decide_eq_true (h.resolve_left h0)
    replace h0 := decide_eq_false h0
    clear h
    go_enter Try.func9, Try.ntmps9
    go_wp2
    go_ret3
    exact ⟨rfl, Below.refl _ _⟩
def utf_Rune.f (a0 : ByteArray) (a1 : Int) : Option (Int × Int × Int) := if a0.size ≤ 140737488351232 then some (rune a0 a1) else none
theorem utf_Rune.calls (a0 : ByteArray) (a1 : Int) (r1 : Int) (r2 : Int) (r3 : Int) (w : World) (h : utf_Rune.f a0 a1 = some (r1, r2, r3)) :
    Calls Try.prog 9 #[.string a0, .int .i64 a1] w fun e w' => e = .returned (.tuple #[.int .i32 r1, .int .i64 r2, .int .i64 r3]) ∧ Below w.heap.size w w' := by
  unfold utf_Rune.f at h
  split at h
  · rename_i hs
    have hr := Option.some.inj h
    by_cases ho : a1 < 0 ∨ (a0.size : Int) ≤ a1
    · rw [rune, if_pos ho] at hr
      simp only [Prod.mk.injEq] at hr
      obtain ⟨rfl, rfl, rfl⟩ := hr
      exact rune_out a0 a1 w ho
    · exact rune_in a0 a1 w (by omega) (by omega) hs r1 r2 r3 hr
  · cases h


/-! ### utf_All: function 11 -/
def utf_All.l0 : Nat → ByteArray → List Int → Int → Option (List Int × Int × Int)
  | 0, _, _, _ => none
  | k + 1, x0, x5, x6 => if x6 < (x0.size : Int) then ((utf_Rune.f x0 x6).bind fun bt101 => (if bt101.2.2 = 0 then (if x5.length < 35184372088832 then (utf_All.l0 k x0 (x5 ++ [bt101.1]) (wrap64 (x6 + bt101.2.1))) else (none)) else (some (x5, x6, bt101.2.2)))) else (some (x5, x6, 0))
def utf_All.f (k : Nat) (a0 : ByteArray) : Option (List Int × Int × Int) := utf_All.l0 k a0 ([] : List Int) 0
theorem utf_All.mono_l : ∀ k, (∀ y0 y1 y2, LeO (utf_All.l0 k y0 y1 y2) (utf_All.l0 (k + 1) y0 y1 y2))
  | 0 => fun _ _ _ r h => by simp [utf_All.l0] at h
  | k + 1 => by
    have ih0 := utf_All.mono_l k
    · intro y0 y1 y2
      unfold utf_All.l0
      repeat' first
      | (with_reducible exact ih0 _ _ _)
      | (with_reducible exact LeO.refl _)
      | (with_reducible exact LeO.none _)
      | (with_reducible refine LeO.ite ?_ ?_)
      | (with_reducible refine LeO.bind ?_ (fun _ => ?_))
      | exact ih0 _ _ _
      | exact LeO.none _
      | refine LeO.ite ?_ ?_
      | refine LeO.bind ?_ (fun _ => ?_)
theorem utf_All.mono : ∀ a0 k, LeO (utf_All.f k a0) (utf_All.f (k + 1) a0) := by
  intro a0 k
  have ih0 := utf_All.mono_l k
  unfold utf_All.f
  repeat' first
      | (with_reducible exact ih0 _ _ _)
      | (with_reducible exact LeO.refl _)
      | (with_reducible exact LeO.none _)
      | (with_reducible refine LeO.ite ?_ ?_)
      | (with_reducible refine LeO.bind ?_ (fun _ => ?_))
      | exact ih0 _ _ _
      | exact LeO.none _
      | refine LeO.ite ?_ ?_
      | refine LeO.bind ?_ (fun _ => ?_)
set_option maxHeartbeats 8000000 in
set_option maxRecDepth 100000 in
theorem utf_All.calls (k : Nat) (a0 : ByteArray) (r1 : List Int) (r2 : Int) (r3 : Int) (w : World) (h : utf_All.f k a0 = some (r1, r2, r3)) :
    Calls Try.prog 11 #[.string a0] w fun e w' => ∃ v0_ : Value, e = .returned (.tuple #[v0_, .int .i64 r2, .int .i64 r3]) ∧ Kd.R (Kd.int .i32) 21 w' w.heap.size (fun _ => True) v0_ r1 ∧ Below w.heap.size w w' := by
  have HB := Aside0.mk (Below.refl w.heap.size w)
  have H : (utf_All.l0 k a0 ([] : List Int) 0) = some (r1, r2, r3) := h
  clear h
  have H' := Aside0.mk H
  clear H
  go_enter Try.func11, Try.ntmps11
  go_wp2
  go_loopg [5, 6] k (fun kq v5 v6 w' => ∃ (x5_1 : List Int) (x6_1 : Int), v6 = .int .i64 x6_1 ∧ Aside0 (utf_All.l0 kq a0 x5_1 x6_1 = some (r1, r2, r3)) ∧ Aside0 (kq ≤ k) ∧ Aside0 (Kd.R (Kd.int .i32) 21 w' w.heap.size (fun _ => True) v5 x5_1) ∧ Aside0 (Below w.heap.size w w'))
  case atStart => exact ⟨(([] : List Int)), (0), (by first | rfl | (simp; done) | (simp [*]; done)), H', ⟨Nat.le_refl _⟩, ⟨by first | exact Kd.R_nil _ _ _ _ _ | exact Kd.N_nil _ _ _ _ _ | exact Kd.V_nil _ _ _ _ _ | exact Kd.Q_nil _ _ _ _ _ | exact Kd.S_nil _ _ _ _ _⟩, ⟨by repeat (first | (with_reducible first | exact HB.out | apply below_alloc | apply pw_below_drewN | apply below_drew1) | exact HB.out)⟩⟩
  case round =>
    clear H'
    try clear c1
    obtain ⟨x5_1, x6_1, rfl, HA, HK1, HO_5, HB⟩ := hrel
    cases gk with
    | zero => exact absurd HA.out (by simp [utf_All.l0])
    | succ k1 =>
      have H := HA.out
      clear HA
      simp only [utf_All.l0] at H
      by_cases c2 : x6_1 < (a0.size : Int)
      · rw [if_pos c2] at H
        have c2b0 : decide (x6_1 < (a0.size : Int)) = true := decide_eq_true c2
        clear c2
        replace H := Option.bind_eq_some_iff.mp H
        obtain ⟨⟨t101, t102, t103⟩, A30, H⟩ := H
        replace H : (if t103 = 0 then (if x5_1.length < 35184372088832 then (utf_All.l0 k1 a0 (x5_1 ++ [t101]) (wrap64 (x6_1 + t102))) else (none)) else (some (x5_1, x6_1, t103))) = some (r1, r2, r3) := H
        have A3 := Aside0.mk A30
        clear A30
        by_cases c4 : t103 = 0
        · rw [if_pos c4] at H
          have c4b0 : (t103 == 0) = true := beq_iff_eq.mpr c4
          have c4b1 : (t103 != 0) = false := bne_eq_false_iff_eq.mpr c4
          clear c4
          by_cases c5 : x5_1.length < 35184372088832
          · rw [if_pos c5] at H
            have LMc5 := Aside0.mk c5
            clear c5
            obtain ⟨y104, hy104⟩ : ∃ y_ : List Int, y_ = (x5_1 ++ [t101]) := ⟨_, rfl⟩
            replace H : (utf_All.l0 k1 a0 y104 (wrap64 (x6_1 + t102))) = some (r1, r2, r3) := by first | (rw [hy104]; with_reducible exact H) | (have H2_ := (Option.bind_some _ _).symm.trans H; rw [hy104]; with_reducible exact H2_) | (have H2_ := (Option.bind_some _ _).symm.trans H; with_reducible exact H2_) | with_reducible exact H | (rw [hy104]; exact H) | exact H
            have Ny104 := Aside0.mk hy104
            clear hy104
            have H' := Aside0.mk H
            clear H
            go_wp2_with (first | ((with_reducible refine gate_callee (f := 9) rfl ?_); refine goesL_ (some 17) rfl rfl Try.func9 (by kernel_rfl) rfl #[.string a0, .int .i64 x6_1] rfl (by (try simp only [List.map_toArray, List.map_cons, List.map_nil]); first | done | rfl | (simp only [List.length_drop, List.length_take]; rfl)) ?_; (with_reducible refine (utf_Rune.calls a0 x6_1 t101 t102 t103 _ A3.out).mono ?_); rintro e w6 ⟨rfl, hb⟩; refine ⟨_, rfl, ?_⟩; have n0_ := Aside0.mk (Kd.R_below (by (with_reducible repeat (first | apply Kd.R_alloc | apply Kd.R_drewN | apply Kd.R_drew)); exact HO_5.out) hb); have n1_ := Aside0.mk (below_step (by repeat (first | (with_reducible first | exact HB.out | apply below_alloc | apply pw_below_drewN | apply below_drew1) | exact HB.out)) hb); clear HO_5; clear HB; have HO_5 := n0_; have HB := n1_; clear n0_ n1_; (try clear hb); (try clear hb2); (try clear hk); (try clear hi)) | ((with_reducible refine gate_builtin (b := .append) (xs := #[.tmp 26, .tmp 28]) rfl ?_); at_builtin; refine Kd.R_append (Kd.int .i32) (w0 := w) w.heap.size rfl (.tmp 26) (.tmp 28) 29 21 (.int .i32 0) 4 rfl Try.underlying29 info21 rfl (by decide) (by omega) u5 x5_1 t101 [.int .i32 t101] (fun _ => True) (fun _ => False) rfl rfl ?aP (fun _ hk => hk.elim) ?aF ?aO ?aB ?aS ?aL ?_; (case aP => exact rfl); (case aB => exact (by repeat (first | (with_reducible first | exact HB.out | apply below_alloc | apply pw_below_drewN | apply below_drew1) | exact HB.out))); (case aF => exact (fun _ _ => trivial)); (case aO => exact (by (with_reducible repeat (first | apply Kd.R_alloc | apply Kd.R_drewN | apply Kd.R_drew)); exact HO_5.out)); (case aS => exact (below_size (by repeat (first | (with_reducible first | exact HB.out | apply below_alloc | apply pw_below_drewN | apply below_drew1) | exact HB.out)))); (case aL => have := LMc5.out; omega); intro v105 w7 ho hb hg hat; rw [← Ny104.out] at ho; have n0_ := Aside0.mk (hb); have n1_ := Aside0.mk (ho); clear HB; clear HO_5; have HB := n0_; have HO106 := n1_; clear n0_ n1_; clear ho hb hg hat))
            go_roundg k1
            case measure => have := HK1.out; omega
            case rel => exact ⟨(y104), (wrap64 (x6_1 + t102)), (by first | rfl | (simp; done) | (simp [*]; done)), H', ⟨by have := HK1.out; omega⟩, ⟨by (with_reducible repeat (first | apply Kd.R_alloc | apply Kd.R_drewN | apply Kd.R_drew)); exact HO106.out⟩, ⟨by repeat (first | (with_reducible first | exact HB.out | apply below_alloc | apply pw_below_drewN | apply below_drew1) | exact HB.out)⟩⟩
          · rw [if_neg c5] at H
            exact absurd H (by simp)
        · rw [if_neg c4] at H
          have c4b0 : (t103 == 0) = false := beq_eq_false_iff_ne.mpr c4
          have c4b1 : (t103 != 0) = true := bne_iff_ne.mpr c4
          simp only [Option.some.injEq, Prod.mk.injEq] at H
          obtain ⟨rfl, rfl, rfl⟩ := H
          go_wp2_with (first | ((with_reducible refine gate_callee (f := 9) rfl ?_); refine goesL_ (some 17) rfl rfl Try.func9 (by kernel_rfl) rfl #[.string a0, .int .i64 x6_1] rfl (by (try simp only [List.map_toArray, List.map_cons, List.map_nil]); first | done | rfl | (simp only [List.length_drop, List.length_take]; rfl)) ?_; (with_reducible refine (utf_Rune.calls a0 x6_1 t101 t102 t103 _ A3.out).mono ?_); rintro e w8 ⟨rfl, hb⟩; refine ⟨_, rfl, ?_⟩; have n0_ := Aside0.mk (Kd.R_below (by (with_reducible repeat (first | apply Kd.R_alloc | apply Kd.R_drewN | apply Kd.R_drew)); exact HO_5.out) hb); have n1_ := Aside0.mk (below_step (by repeat (first | (with_reducible first | exact HB.out | apply below_alloc | apply pw_below_drewN | apply below_drew1) | exact HB.out)) hb); clear HO_5; clear HB; have HO_5 := n0_; have HB := n1_; clear n0_ n1_; (try clear hb); (try clear hb2); (try clear hk); (try clear hi)))
          go_ret3
          exact ⟨_, by first | rfl | (simp [errW_none, errW_some] <;> rfl) | (simp [*, errW_none, errW_some] <;> rfl), by (with_reducible repeat (first | apply Kd.R_alloc | apply Kd.R_drewN | apply Kd.R_drew)); exact HO_5.out, by repeat (first | (with_reducible first | exact HB.out | apply below_alloc | apply pw_below_drewN | apply below_drew1) | exact HB.out)⟩
      · rw [if_neg c2] at H
        have c2b0 : decide (x6_1 < (a0.size : Int)) = false := decide_eq_false c2
        clear c2
        simp only [Option.some.injEq, Prod.mk.injEq] at H
        obtain ⟨rfl, rfl, rfl⟩ := H
        go_wp2
        go_ret3
        exact ⟨_, by first | rfl | (simp [errW_none, errW_some] <;> rfl) | (simp [*, errW_none, errW_some] <;> rfl), by (with_reducible repeat (first | apply Kd.R_alloc | apply Kd.R_drewN | apply Kd.R_drew)); exact HO_5.out, by repeat (first | (with_reducible first | exact HB.out | apply below_alloc | apply pw_below_drewN | apply below_drew1) | exact HB.out)⟩

/-! ### utf_Whole: function 14 -/
mutual
def utf_Whole.l0 : Nat → ByteArray → Int → Option (Int)
  | 0, _, _ => none
  | k + 1, x0, x3 => if x3 ≤ 3 then (utf_Whole.j1 k x0 x3 (decide (x3 ≤ (x0.size : Int)))) else (utf_Whole.j1 k x0 x3 false)
def utf_Whole.j1 : Nat → ByteArray → Int → Bool → Option (Int)
  | 0, _, _, _ => none
  | k + 1, x0, x3, x14 => if x14 = true then ((utf_Rune.f x0 (wrap64 ((x0.size : Int) - x3))).bind fun bt107 => (if bt107.2.2 = 7 then (some (wrap64 ((x0.size : Int) - x3))) else (utf_Whole.l0 k x0 (wrap64 (x3 + 1))))) else (some (x0.size : Int))
end
def utf_Whole.f (k : Nat) (a0 : ByteArray) : Option (Int) := utf_Whole.l0 k a0 1
theorem utf_Whole.mono_l : ∀ k, (∀ y0 y1, LeO (utf_Whole.l0 k y0 y1) (utf_Whole.l0 (k + 1) y0 y1)) ∧ (∀ y0 y1 y2, LeO (utf_Whole.j1 k y0 y1 y2) (utf_Whole.j1 (k + 1) y0 y1 y2))
  | 0 => ⟨fun _ _ r h => by simp [utf_Whole.l0] at h, fun _ _ _ r h => by simp [utf_Whole.j1] at h⟩
  | k + 1 => by
    obtain ⟨ih0, ih1⟩ := utf_Whole.mono_l k
    refine ⟨?_, ?_⟩
    · intro y0 y1
      unfold utf_Whole.l0
      repeat' first
      | (with_reducible exact ih0 _ _)
      | (with_reducible exact ih1 _ _ _)
      | (with_reducible exact LeO.refl _)
      | (with_reducible exact LeO.none _)
      | (with_reducible refine LeO.ite ?_ ?_)
      | (with_reducible refine LeO.bind ?_ (fun _ => ?_))
      | exact ih0 _ _
      | exact ih1 _ _ _
      | exact LeO.none _
      | refine LeO.ite ?_ ?_
      | refine LeO.bind ?_ (fun _ => ?_)
    · intro y0 y1 y2
      unfold utf_Whole.j1
      repeat' first
      | (with_reducible exact ih0 _ _)
      | (with_reducible exact ih1 _ _ _)
      | (with_reducible exact LeO.refl _)
      | (with_reducible exact LeO.none _)
      | (with_reducible refine LeO.ite ?_ ?_)
      | (with_reducible refine LeO.bind ?_ (fun _ => ?_))
      | exact ih0 _ _
      | exact ih1 _ _ _
      | exact LeO.none _
      | refine LeO.ite ?_ ?_
      | refine LeO.bind ?_ (fun _ => ?_)
theorem utf_Whole.mono : ∀ a0 k, LeO (utf_Whole.f k a0) (utf_Whole.f (k + 1) a0) := by
  intro a0 k
  obtain ⟨ih0, ih1⟩ := utf_Whole.mono_l k
  unfold utf_Whole.f
  repeat' first
      | (with_reducible exact ih0 _ _)
      | (with_reducible exact ih1 _ _ _)
      | (with_reducible exact LeO.refl _)
      | (with_reducible exact LeO.none _)
      | (with_reducible refine LeO.ite ?_ ?_)
      | (with_reducible refine LeO.bind ?_ (fun _ => ?_))
      | exact ih0 _ _
      | exact ih1 _ _ _
      | exact LeO.none _
      | refine LeO.ite ?_ ?_
      | refine LeO.bind ?_ (fun _ => ?_)
set_option maxHeartbeats 8000000 in
set_option maxRecDepth 100000 in
theorem utf_Whole.calls (k : Nat) (a0 : ByteArray) (r : Int) (w : World) (h : utf_Whole.f k a0 = some r) :
    Calls Try.prog 14 #[.string a0] w fun e w' => e = .returned (.int .i64 r) ∧ Below w.heap.size w w' := by
  have HB := Aside0.mk (Below.refl w.heap.size w)
  have H : (utf_Whole.l0 k a0 1) = some r := h
  clear h
  have H' := Aside0.mk H
  clear H
  go_enter Try.func14, Try.ntmps14
  go_wp2
  go_loopg [3] k (fun kq v3 w' => ∃ (x3_1 : Int), v3 = .int .i64 x3_1 ∧ Aside0 (utf_Whole.l0 kq a0 x3_1 = some r) ∧ Aside0 (kq ≤ k) ∧ Aside0 (Below w.heap.size w w'))
  case atStart => exact ⟨(1), (by first | rfl | (simp; done) | (simp [*]; done)), H', ⟨Nat.le_refl _⟩, ⟨by repeat (first | (with_reducible first | exact HB.out | apply below_alloc | apply pw_below_drewN | apply below_drew1) | exact HB.out)⟩⟩
  case round =>
    clear H'
    try clear c1
    obtain ⟨x3_1, rfl, HA, HK1, HB⟩ := hrel
    cases gk with
    | zero => exact absurd HA.out (by simp [utf_Whole.l0])
    | succ k1 =>
      have H := HA.out
      clear HA
      simp only [utf_Whole.l0] at H
      have HC2 := Aside0.mk H
      clear H
      go_upto_region 2 with (fail)
      go_cut [14] (fun v14 wc => ∃ (kq : Nat) (x14_1 : Bool), v14 = .bool x14_1 ∧ Aside0 (utf_Whole.j1 kq a0 x3_1 x14_1 = some r) ∧ Aside0 (kq ≤ k1) ∧ Aside0 (Below w.heap.size w wc))
      case first =>
        have H := HC2.out
        clear HC2
        by_cases c3 : x3_1 ≤ 3
        · rw [if_pos c3] at H
          have c3b0 : decide (x3_1 ≤ 3) = true := decide_eq_true c3
          clear c3
          (first | rw [c3b0] | (simp only [i64_w, i32_w]; rw [c3b0]) | skip)
          have H' := Aside0.mk H
          clear H
          go_wp2
          go_meet
          case rel => exact ⟨_, (decide (x3_1 ≤ (a0.size : Int))), (by first | rfl | (simp; done) | (simp [*]; done)), H', ⟨by have := HK1.out; first | omega | exact Nat.le_refl _⟩, ⟨by repeat (first | (with_reducible first | exact HB.out | apply below_alloc | apply pw_below_drewN | apply below_drew1) | exact HB.out)⟩⟩
        · rw [if_neg c3] at H
          have c3b0 : decide (x3_1 ≤ 3) = false := decide_eq_false c3
          clear c3
          (first | rw [c3b0] | (simp only [i64_w, i32_w]; rw [c3b0]) | skip)
          have H' := Aside0.mk H
          clear H
          go_wp2
          go_meet
          case rel => exact ⟨_, (false), (by first | rfl | (simp; done) | (simp [*]; done)), H', ⟨by have := HK1.out; first | omega | exact Nat.le_refl _⟩, ⟨by repeat (first | (with_reducible first | exact HB.out | apply below_alloc | apply pw_below_drewN | apply below_drew1) | exact HB.out)⟩⟩
      case rest =>
        clear HC2
        try clear c1
        try clear p2
        try clear c3
        try clear c3b0
        obtain ⟨kq, x14_1, rfl, HA, HJ1, HB⟩ := hcut
        cases kq with
        | zero => exact absurd HA.out (by simp [utf_Whole.j1])
        | succ kj1 =>
          have H := HA.out
          clear HA
          simp only [utf_Whole.j1] at H
          by_cases c4 : x14_1 = true
          · subst c4
            have H1 : ((utf_Rune.f a0 (wrap64 ((a0.size : Int) - x3_1))).bind fun bt107 => (if bt107.2.2 = 7 then (some (wrap64 ((a0.size : Int) - x3_1))) else (utf_Whole.l0 kj1 a0 (wrap64 (x3_1 + 1))))) = some r := by rw [if_pos rfl] at H; exact H
            clear H
            have H := H1
            clear H1
            replace H := Option.bind_eq_some_iff.mp H
            obtain ⟨⟨t107, t108, t109⟩, A50, H⟩ := H
            replace H : (if t109 = 7 then (some (wrap64 ((a0.size : Int) - x3_1))) else (utf_Whole.l0 kj1 a0 (wrap64 (x3_1 + 1)))) = some r := H
            have A5 := Aside0.mk A50
            clear A50
            by_cases c6 : t109 = 7
            · rw [if_pos c6] at H
              have c6b0 : (t109 == 7) = true := beq_iff_eq.mpr c6
              have c6b1 : (t109 != 7) = false := bne_eq_false_iff_eq.mpr c6
              clear c6
              obtain rfl := Option.some.inj H
              go_wp2_with (first | ((with_reducible refine gate_callee (f := 9) rfl ?_); refine goesL_ (some 23) rfl rfl Try.func9 (by kernel_rfl) rfl #[.string a0, .int .i64 (wrap64 ((a0.size : Int) - x3_1))] rfl (by (try simp only [List.map_toArray, List.map_cons, List.map_nil]); first | done | rfl | (simp only [List.length_drop, List.length_take]; rfl)) ?_; (with_reducible refine (utf_Rune.calls a0 (wrap64 ((a0.size : Int) - x3_1)) t107 t108 t109 _ A5.out).mono ?_); rintro e w7 ⟨rfl, hb⟩; refine ⟨_, rfl, ?_⟩; have n0_ := Aside0.mk (below_step (by repeat (first | (with_reducible first | exact HB.out | apply below_alloc | apply pw_below_drewN | apply below_drew1) | exact HB.out)) hb); clear HB; have HB := n0_; clear n0_; (try clear hb); (try clear hb2); (try clear hk); (try clear hi)))
              go_ret
              exact ⟨by first | rfl | (simp [errW_none, errW_some] <;> rfl) | (simp [*, errW_none, errW_some] <;> rfl), by repeat (first | (with_reducible first | exact HB.out | apply below_alloc | apply pw_below_drewN | apply below_drew1) | exact HB.out)⟩
            · rw [if_neg c6] at H
              have c6b0 : (t109 == 7) = false := beq_eq_false_iff_ne.mpr c6
              have c6b1 : (t109 != 7) = true := bne_iff_ne.mpr c6
              have H' := Aside0.mk H
              clear H
              go_wp2_with (first | ((with_reducible refine gate_callee (f := 9) rfl ?_); refine goesL_ (some 23) rfl rfl Try.func9 (by kernel_rfl) rfl #[.string a0, .int .i64 (wrap64 ((a0.size : Int) - x3_1))] rfl (by (try simp only [List.map_toArray, List.map_cons, List.map_nil]); first | done | rfl | (simp only [List.length_drop, List.length_take]; rfl)) ?_; (with_reducible refine (utf_Rune.calls a0 (wrap64 ((a0.size : Int) - x3_1)) t107 t108 t109 _ A5.out).mono ?_); rintro e w8 ⟨rfl, hb⟩; refine ⟨_, rfl, ?_⟩; have n0_ := Aside0.mk (below_step (by repeat (first | (with_reducible first | exact HB.out | apply below_alloc | apply pw_below_drewN | apply below_drew1) | exact HB.out)) hb); clear HB; have HB := n0_; clear n0_; (try clear hb); (try clear hb2); (try clear hk); (try clear hi)))
              go_roundg kj1
              case measure => have := HK1.out; have := HJ1.out; omega
              case rel => exact ⟨(wrap64 (x3_1 + 1)), (by first | rfl | (simp; done) | (simp [*]; done)), H', ⟨by have := HK1.out; have := HJ1.out; omega⟩, ⟨by repeat (first | (with_reducible first | exact HB.out | apply below_alloc | apply pw_below_drewN | apply below_drew1) | exact HB.out)⟩⟩
          · replace c4 := Bool.eq_false_iff.mpr c4
            subst c4
            have H1 : (some (a0.size : Int)) = some r := by rw [if_neg (show ¬ (false = true) by decide)] at H; exact H
            clear H
            have H := H1
            clear H1
            obtain rfl := Option.some.inj H
            go_wp2
            go_ret
            exact ⟨by first | rfl | (simp [errW_none, errW_some] <;> rfl) | (simp [*, errW_none, errW_some] <;> rfl), by repeat (first | (with_reducible first | exact HB.out | apply below_alloc | apply pw_below_drewN | apply below_drew1) | exact HB.out)⟩

/-! ### utf_forms: function 18 -/
def utf_forms.f  : Option (Int × Int × Int × Int × Int × Int × Int × Int × Int × Int × Int × Int) := some (128, 0, 0, 224, 192, 128, 240, 224, 2048, 248, 240, 65536)
set_option maxHeartbeats 8000000 in
set_option maxRecDepth 100000 in
theorem utf_forms.calls  (r1 : Int) (r2 : Int) (r3 : Int) (r4 : Int) (r5 : Int) (r6 : Int) (r7 : Int) (r8 : Int) (r9 : Int) (r10 : Int) (r11 : Int) (r12 : Int) (w : World) (h : utf_forms.f  = some (r1, r2, r3, r4, r5, r6, r7, r8, r9, r10, r11, r12)) :
    Calls Try.prog 18 #[] w fun e w' => e = .returned (.agg #[.int .u8 r1, .int .u8 r2, .int .i32 r3, .int .u8 r4, .int .u8 r5, .int .i32 r6, .int .u8 r7, .int .u8 r8, .int .i32 r9, .int .u8 r10, .int .u8 r11, .int .i32 r12]) ∧ Below w.heap.size w w' := by
  have hu45 := Try.underlying45
  have hu44 := Try.underlying44
  have HB := Aside0.mk (Below.refl w.heap.size w)
  have H : (some (128, 0, 0, 224, 192, 128, 240, 224, 2048, 248, 240, 65536)) = some (r1, r2, r3, r4, r5, r6, r7, r8, r9, r10, r11, r12) := h
  clear h
  simp only [Option.some.injEq, Prod.mk.injEq] at H
  obtain ⟨rfl, rfl, rfl, rfl, rfl, rfl, rfl, rfl, rfl, rfl, rfl, rfl⟩ := H
  go_enter Try.func18, Try.ntmps18
  go_wp2_with (first | ((with_reducible refine gate_dst (N := 0) rfl ?_); refine box_event ?hg (N := 0) ?hd (cs := #[.int .u8 0, .int .u8 0, .int .i32 0, .int .u8 0, .int .u8 0, .int .i32 0, .int .u8 0, .int .u8 0, .int .i32 0, .int .u8 0, .int .u8 0, .int .i32 0]) (t := 45) ?hr ?_; (case hd => rfl); (case hg => rfl); (case hr => first | (go_simp; done) | (go_simp; rfl)); intro gb110 hg w1 hbox hb; have n0_ := Aside0.mk (below_step (by repeat (first | (with_reducible first | exact HB.out | apply below_alloc | apply pw_below_drewN | apply below_drew1) | exact HB.out)) hb); have n1_ := Aside0.mk (hbox); have n2_ := Aside0.mk ((by rw [hg]; exact (below_size (by repeat (first | (with_reducible first | exact HB.out | apply below_alloc | apply pw_below_drewN | apply below_drew1) | exact HB.out))) : w.heap.size ≤ gb110)); have n3_ := Aside0.mk ((by rw [hg]; exact (below_size (by repeat (first | (with_reducible first | exact HB.out | apply below_alloc | apply pw_below_drewN | apply below_drew1) | exact HB.out))) : w.heap.size ≤ gb110)); clear HB; have HB := n0_; have BK110 := n1_; have GW110 := n2_; have GE110 := n3_; clear n0_ n1_ n2_ n3_; clear hb hbox hg; have hcz2_0 : w1.cell? ⟨gb110, 0, none⟩ = some (.int .u8 0) := (blk_cell BK110.out 0).trans rfl; have hcz2_1 : w1.cell? ⟨gb110, 1, none⟩ = some (.int .u8 0) := (blk_cell BK110.out 1).trans rfl; have hcz2_2 : w1.cell? ⟨gb110, 2, none⟩ = some (.int .i32 0) := (blk_cell BK110.out 2).trans rfl; have hcz2_3 : w1.cell? ⟨gb110, 3, none⟩ = some (.int .u8 0) := (blk_cell BK110.out 3).trans rfl; have hcz2_4 : w1.cell? ⟨gb110, 4, none⟩ = some (.int .u8 0) := (blk_cell BK110.out 4).trans rfl; have hcz2_5 : w1.cell? ⟨gb110, 5, none⟩ = some (.int .i32 0) := (blk_cell BK110.out 5).trans rfl; have hcz2_6 : w1.cell? ⟨gb110, 6, none⟩ = some (.int .u8 0) := (blk_cell BK110.out 6).trans rfl; have hcz2_7 : w1.cell? ⟨gb110, 7, none⟩ = some (.int .u8 0) := (blk_cell BK110.out 7).trans rfl; have hcz2_8 : w1.cell? ⟨gb110, 8, none⟩ = some (.int .i32 0) := (blk_cell BK110.out 8).trans rfl; have hcz2_9 : w1.cell? ⟨gb110, 9, none⟩ = some (.int .u8 0) := (blk_cell BK110.out 9).trans rfl; have hcz2_10 : w1.cell? ⟨gb110, 10, none⟩ = some (.int .u8 0) := (blk_cell BK110.out 10).trans rfl; have hcz2_11 : w1.cell? ⟨gb110, 11, none⟩ = some (.int .i32 0) := (blk_cell BK110.out 11).trans rfl; have hfz2_0 := blk_frozen BK110.out 0; have hfz2_1 := blk_frozen BK110.out 1; have hfz2_2 := blk_frozen BK110.out 2; have hfz2_3 := blk_frozen BK110.out 3; have hfz2_4 := blk_frozen BK110.out 4; have hfz2_5 := blk_frozen BK110.out 5; have hfz2_6 := blk_frozen BK110.out 6; have hfz2_7 := blk_frozen BK110.out 7; have hfz2_8 := blk_frozen BK110.out 8; have hfz2_9 := blk_frozen BK110.out 9; have hfz2_10 := blk_frozen BK110.out 10; have hfz2_11 := blk_frozen BK110.out 11))
  refine bodyPost_ret (results_cell_row rfl _ _ gb110 45 #[.int .u8 128, .int .u8 0, .int .i32 0, .int .u8 224, .int .u8 192, .int .i32 128, .int .u8 240, .int .u8 224, .int .i32 2048, .int .u8 248, .int .u8 240, .int .i32 65536] (0, 0) _ rfl (by (with_reducible repeat (first | refine blk_drewN ?_ _ | refine blk_drew ?_ | refine blk_alloc ?_ _)); refine blk_put (cs := #[.int .u8 128, .int .u8 0, .int .i32 0, .int .u8 224, .int .u8 192, .int .i32 128, .int .u8 240, .int .u8 224, .int .i32 2048, .int .u8 248, .int .u8 240, .int .i32 0]) ?_ 11 _ rfl; (with_reducible repeat (first | refine blk_drewN ?_ _ | refine blk_drew ?_ | refine blk_alloc ?_ _)); refine blk_put (cs := #[.int .u8 128, .int .u8 0, .int .i32 0, .int .u8 224, .int .u8 192, .int .i32 128, .int .u8 240, .int .u8 224, .int .i32 2048, .int .u8 248, .int .u8 0, .int .i32 0]) ?_ 10 _ rfl; (with_reducible repeat (first | refine blk_drewN ?_ _ | refine blk_drew ?_ | refine blk_alloc ?_ _)); refine blk_put (cs := #[.int .u8 128, .int .u8 0, .int .i32 0, .int .u8 224, .int .u8 192, .int .i32 128, .int .u8 240, .int .u8 224, .int .i32 2048, .int .u8 0, .int .u8 0, .int .i32 0]) ?_ 9 _ rfl; (with_reducible repeat (first | refine blk_drewN ?_ _ | refine blk_drew ?_ | refine blk_alloc ?_ _)); refine blk_put (cs := #[.int .u8 128, .int .u8 0, .int .i32 0, .int .u8 224, .int .u8 192, .int .i32 128, .int .u8 240, .int .u8 224, .int .i32 0, .int .u8 0, .int .u8 0, .int .i32 0]) ?_ 8 _ rfl; (with_reducible repeat (first | refine blk_drewN ?_ _ | refine blk_drew ?_ | refine blk_alloc ?_ _)); refine blk_put (cs := #[.int .u8 128, .int .u8 0, .int .i32 0, .int .u8 224, .int .u8 192, .int .i32 128, .int .u8 240, .int .u8 0, .int .i32 0, .int .u8 0, .int .u8 0, .int .i32 0]) ?_ 7 _ rfl; (with_reducible repeat (first | refine blk_drewN ?_ _ | refine blk_drew ?_ | refine blk_alloc ?_ _)); refine blk_put (cs := #[.int .u8 128, .int .u8 0, .int .i32 0, .int .u8 224, .int .u8 192, .int .i32 128, .int .u8 0, .int .u8 0, .int .i32 0, .int .u8 0, .int .u8 0, .int .i32 0]) ?_ 6 _ rfl; (with_reducible repeat (first | refine blk_drewN ?_ _ | refine blk_drew ?_ | refine blk_alloc ?_ _)); refine blk_put (cs := #[.int .u8 128, .int .u8 0, .int .i32 0, .int .u8 224, .int .u8 192, .int .i32 0, .int .u8 0, .int .u8 0, .int .i32 0, .int .u8 0, .int .u8 0, .int .i32 0]) ?_ 5 _ rfl; (with_reducible repeat (first | refine blk_drewN ?_ _ | refine blk_drew ?_ | refine blk_alloc ?_ _)); refine blk_put (cs := #[.int .u8 128, .int .u8 0, .int .i32 0, .int .u8 224, .int .u8 0, .int .i32 0, .int .u8 0, .int .u8 0, .int .i32 0, .int .u8 0, .int .u8 0, .int .i32 0]) ?_ 4 _ rfl; (with_reducible repeat (first | refine blk_drewN ?_ _ | refine blk_drew ?_ | refine blk_alloc ?_ _)); refine blk_put (cs := #[.int .u8 128, .int .u8 0, .int .i32 0, .int .u8 0, .int .u8 0, .int .i32 0, .int .u8 0, .int .u8 0, .int .i32 0, .int .u8 0, .int .u8 0, .int .i32 0]) ?_ 3 _ rfl; (with_reducible repeat (first | refine blk_drewN ?_ _ | refine blk_drew ?_ | refine blk_alloc ?_ _)); refine blk_put (cs := #[.int .u8 128, .int .u8 0, .int .i32 0, .int .u8 0, .int .u8 0, .int .i32 0, .int .u8 0, .int .u8 0, .int .i32 0, .int .u8 0, .int .u8 0, .int .i32 0]) ?_ 2 _ rfl; (with_reducible repeat (first | refine blk_drewN ?_ _ | refine blk_drew ?_ | refine blk_alloc ?_ _)); refine blk_put (cs := #[.int .u8 128, .int .u8 0, .int .i32 0, .int .u8 0, .int .u8 0, .int .i32 0, .int .u8 0, .int .u8 0, .int .i32 0, .int .u8 0, .int .u8 0, .int .i32 0]) ?_ 1 _ rfl; (with_reducible repeat (first | refine blk_drewN ?_ _ | refine blk_drew ?_ | refine blk_alloc ?_ _)); refine blk_put (cs := #[.int .u8 0, .int .u8 0, .int .i32 0, .int .u8 0, .int .u8 0, .int .i32 0, .int .u8 0, .int .u8 0, .int .i32 0, .int .u8 0, .int .u8 0, .int .i32 0]) ?_ 0 _ rfl; (with_reducible repeat (first | refine blk_drewN ?_ _ | refine blk_drew ?_ | refine blk_alloc ?_ _)); exact BK110.out) Try.underlying45 rfl (by kernel_rfl)) rfl ?_
  exact ⟨by first | rfl | (simp [errW_none, errW_some] <;> rfl) | (simp [*, errW_none, errW_some] <;> rfl), by repeat (first | (with_reducible first | exact HB.out | apply below_alloc | apply pw_below_drewN | apply below_drew1 | refine below_set ?_ GE110.out) | exact HB.out)⟩

/-! ### utf_may: function 23 -/
def utf_may.f (a0 : Int) : Option (Bool) := if a0 ≥ 0 then (if a0 ≤ 1114111 then (if a0 < 55296 then (some true) else (some (decide (a0 > 57343)))) else (some false)) else (some false)
set_option maxHeartbeats 8000000 in
set_option maxRecDepth 100000 in
theorem utf_may.calls (a0 : Int) (r : Bool) (w : World) (h : utf_may.f a0 = some r) :
    Calls Try.prog 23 #[.int .i32 a0] w fun e w' => e = .returned (.bool r) ∧ Drawn0 w w' := by
  have H : (if a0 ≥ 0 then (if a0 ≤ 1114111 then (if a0 < 55296 then (some true) else (some (decide (a0 > 57343)))) else (some false)) else (some false)) = some r := h
  clear h
  by_cases c2 : a0 ≥ 0
  · rw [if_pos c2] at H
    have c2b0 : decide (0 ≤ a0) = true := decide_eq_true c2
    clear c2
    by_cases c3 : a0 ≤ 1114111
    · rw [if_pos c3] at H
      have c3b0 : decide (a0 ≤ 1114111) = true := decide_eq_true c3
      clear c3
      by_cases c4 : a0 < 55296
      · rw [if_pos c4] at H
        have c4b0 : decide (a0 < 55296) = true := decide_eq_true c4
        clear c4
        obtain rfl := Option.some.inj H
        go_enter Try.func23, Try.ntmps23
        go_wp2
        go_ret
        exact ⟨by first | rfl | (simp; done) | (simp [*]; done), by repeat (first | exact Drawn0.refl _ | apply Drawn0.step)⟩
      · rw [if_neg c4] at H
        have c4b0 : decide (a0 < 55296) = false := decide_eq_false c4
        clear c4
        obtain rfl := Option.some.inj H
        go_enter Try.func23, Try.ntmps23
        go_wp2
        go_ret
        exact ⟨by first | rfl | (simp; done) | (simp [*]; done), by repeat (first | exact Drawn0.refl _ | apply Drawn0.step)⟩
    · rw [if_neg c3] at H
      have c3b0 : decide (a0 ≤ 1114111) = false := decide_eq_false c3
      clear c3
      obtain rfl := Option.some.inj H
      go_enter Try.func23, Try.ntmps23
      go_wp2
      go_ret
      exact ⟨by first | rfl | (simp; done) | (simp [*]; done), by repeat (first | exact Drawn0.refl _ | apply Drawn0.step)⟩
  · rw [if_neg c2] at H
    have c2b0 : decide (0 ≤ a0) = false := decide_eq_false c2
    clear c2
    obtain rfl := Option.some.inj H
    go_enter Try.func23, Try.ntmps23
    go_wp2
    go_ret
    exact ⟨by first | rfl | (simp; done) | (simp [*]; done), by repeat (first | exact Drawn0.refl _ | apply Drawn0.step)⟩

end Go.Proofs.Ytblofllbbcpeiaa.X
