/- The walk of the law EncoderGray. -/
import Derived.Test.YtfigdflhegdjfaaEncA
import Derived.Test.YtfigdflhegdjfaaFlat
import Derived.Deep.DrawnRows
namespace Go.Proofs.Ytfigdflhegdjfaa
open Go.RowKit
set_option linter.unusedVariables false
attribute [local go_sem ↓] Go.wp_at_zero Go.wp_at_succ

theorem cnt_bd {c p pos : Int} (h : chkB c p = true) : -1152921504606846976 ≤ cnt c pos ∧ cnt c pos ≤ 1152921504606846976 := by
  obtain ⟨h1, h2, h3, h4, h5⟩ := chk_in h
  have b1 := clp_bd pos (-1099511627776) 1099511627776 (by omega)
  have p1 := prod_bd (x := clp pos (-1099511627776) 1099511627776) (y := c) (m := 1099511627776) (n := 16384) (by omega) b1 (by omega)
  unfold cnt; omega
set_option maxHeartbeats 8000000 in
theorem encoderGray_walk (a0x0 a0x1 : Int) (a1 : Int) (a2 : Int) (w : World) (w0x0 : (Lit.int .i64 a0x0).wf = true) (w0x1 : (Lit.int .i64 a0x1).wf = true) (w1 : (Lit.int .i64 a1).wf = true) (w2 : (Lit.int .i64 a2).wf = true) :
    Calls Try.prog 6 #[.agg #[.int .i64 a0x0, .int .i64 a0x1], .int .i64 a1, .int .i64 a2] w fun e w' => e = .returned (.bool true) ∧ Below w.heap.size w w' := by
  clear w0x0 w0x1 w1 w2
  obtain ⟨b, h⟩ : ∃ b, chkB a0x0 a0x1 = b := ⟨_, rfl⟩
  cases b
  · go_enter Try.func6, Try.ntmps6
    go_wp2_with (first | (go_at_call 10; (with_reducible refine (awake_true _ _ (Gar.refl _)).mono ?_); rintro e w' ⟨rfl, os1, n1, rfl⟩) | (go_at_call 12; (with_reducible refine (check_bad _ _ h _).mono ?_); rintro e w' ⟨rfl, rfl⟩))
    go_returns
    exact ⟨rfl, show Bel _ _ from Gar.bel (by repeat (first | exact Gar.refl _ | refine Gar.drewN ?_ _ | refine Gar.drew ?_ | refine Gar.alloc ?_ _ | refine Gar.allocs ?_ _))⟩
  · have C1 := clip_any a1 (-1099511627776) 1099511627776
    have b1 := clp_bd a1 (-1099511627776) 1099511627776 (by omega)
    generalize clp a1 (-1099511627776) 1099511627776 = P at C1 b1
    have C2 := clip_any a2 (-20000) 20000
    have b2 := clp_bd a2 (-20000) 20000 (by omega)
    generalize clp a2 (-20000) 20000 = V at C2 b2
    have C3 := clip_any (P + V) (-1099511627776) 1099511627776
    generalize clp (P + V) (-1099511627776) 1099511627776 = T at C3
    have n1 := cnt_bd (pos := P) h
    have n2 := cnt_bd (pos := T) h
    have Q1 := fun w => Count_ok a0x0 a0x1 P h w w (Gar.refl _)
    have Q2 := fun w => Count_ok a0x0 a0x1 T h w w (Gar.refl _)
    have S1 := fun w => Signals_ok a0x0 a0x1 P h w w (Gar.refl _)
    have S2 := fun w => Signals_ok a0x0 a0x1 T h w w (Gar.refl _)
    generalize cnt a0x0 P = N1 at *
    generalize cnt a0x0 T = N2 at *
    obtain ⟨A1, hA1⟩ : ∃ b, sgA N1 = b := ⟨_, rfl⟩
    obtain ⟨B1, hB1⟩ : ∃ b, sgB N1 = b := ⟨_, rfl⟩
    obtain ⟨Z1, hZ1⟩ : ∃ b, sgZ N1 (a0x0 * a0x1) = b := ⟨_, rfl⟩
    obtain ⟨A2, hA2⟩ : ∃ b, sgA N2 = b := ⟨_, rfl⟩
    obtain ⟨B2, hB2⟩ : ∃ b, sgB N2 = b := ⟨_, rfl⟩
    obtain ⟨Z2, hZ2⟩ : ∃ b, sgZ N2 (a0x0 * a0x1) = b := ⟨_, rfl⟩
    rw [hA1, hB1, hZ1] at S1
    rw [hA2, hB2, hZ2] at S2
    obtain ⟨D, hD⟩ : ∃ D, N2 - N1 = D := ⟨_, rfl⟩
    rcases (show D = 0 ∨ (D = 1 ∨ D = -1 ∨ D = 2 ∨ D = -2) ∨ (D ≠ 0 ∧ D ≠ 1 ∧ D ≠ -1 ∧ D ≠ 2 ∧ D ≠ -2) by omega) with hd | hd | ⟨d0, d1, d2, d3, d4⟩
    · obtain rfl : N2 = N1 := by omega
      obtain rfl := hA1.symm.trans hA2
      obtain rfl := hB1.symm.trans hB2
      obtain rfl := hZ1.symm.trans hZ2
      subst hd
      clear hA1 hA2 hB1 hB2 hZ1 hZ2
      go_enter Try.func6, Try.ntmps6
      go_wp2_with (first | (go_at_call 10; (with_reducible refine (awake_true _ _ (Gar.refl _)).mono ?_); rintro e w' ⟨rfl, os1, n1, rfl⟩) | (go_at_call 12; (with_reducible refine (check_ok _ _ h _).mono ?_); rintro e w' ⟨rfl, rfl⟩) | (go_at_call 14; (first | (with_reducible refine (C1 _).mono ?_) | (with_reducible refine (C2 _).mono ?_) | (with_reducible refine (C3 _).mono ?_)); rintro e w' ⟨rfl, rfl⟩) | (go_at_call 16; (first | (with_reducible refine (Q1 _).mono ?_) | (with_reducible refine (Q2 _).mono ?_)); rintro e w' ⟨rfl, os2, n2, rfl⟩) | (go_at_call 17; (first | (with_reducible refine (S1 _).mono ?_) | (with_reducible refine (S2 _).mono ?_)); rintro e w' ⟨rfl, os3, n3, rfl⟩))
      all_goals
        go_returns
        exact ⟨rfl, show Bel _ _ from Gar.bel (by repeat (first | exact Gar.refl _ | refine Gar.drewN ?_ _ | refine Gar.drew ?_ | refine Gar.alloc ?_ _ | refine Gar.allocs ?_ _))⟩
    · obtain ⟨k, hk, hc⟩ : ∃ k, N1 % 4 = k ∧ (k = 0 ∨ k = 1 ∨ k = 2 ∨ k = 3) := ⟨_, rfl, by omega⟩
      rcases hd with rfl | rfl | rfl | rfl <;> rcases hc with rfl | rfl | rfl | rfl
      all_goals
        obtain ⟨m, hm⟩ : ∃ m, N2 % 4 = m := ⟨_, rfl⟩
        have hm2 : m = 0 ∨ m = 1 ∨ m = 2 ∨ m = 3 := by omega
        rcases hm2 with rfl | rfl | rfl | rfl
        all_goals first
        | (exfalso; omega)
        | (unfold sgA at hA1 hA2
           unfold sgB at hB1 hB2
           rw [hk] at hA1 hB1
           rw [hm] at hA2 hB2
           simp at hA1 hA2 hB1 hB2
           subst hA1 hA2 hB1 hB2
           clear hZ1 hZ2 hk hm
           go_enter Try.func6, Try.ntmps6
           go_wp2_with (first | (go_at_call 10; (with_reducible refine (awake_true _ _ (Gar.refl _)).mono ?_); rintro e w' ⟨rfl, os1, n1, rfl⟩) | (go_at_call 12; (with_reducible refine (check_ok _ _ h _).mono ?_); rintro e w' ⟨rfl, rfl⟩) | (go_at_call 14; (first | (with_reducible refine (C1 _).mono ?_) | (with_reducible refine (C2 _).mono ?_) | (with_reducible refine (C3 _).mono ?_)); rintro e w' ⟨rfl, rfl⟩) | (go_at_call 16; (first | (with_reducible refine (Q1 _).mono ?_) | (with_reducible refine (Q2 _).mono ?_)); rintro e w' ⟨rfl, os2, n2, rfl⟩) | (go_at_call 17; (first | (with_reducible refine (S1 _).mono ?_) | (with_reducible refine (S2 _).mono ?_)); rintro e w' ⟨rfl, os3, n3, rfl⟩))
           all_goals
             go_returns
             exact ⟨rfl, show Bel _ _ from Gar.bel (by repeat (first | exact Gar.refl _ | refine Gar.drewN ?_ _ | refine Gar.drew ?_ | refine Gar.alloc ?_ _ | refine Gar.allocs ?_ _))⟩
           )
    · have d0 : (D == 0) = false := by simpa using d0
      have d1 : (D == 1) = false := by simpa using d1
      have d2 : (D == -1) = false := by simpa using d2
      have d3 : (D == 2) = false := by simpa using d3
      have d4 : (D == -2) = false := by simpa using d4
      clear hA1 hA2 hB1 hB2 hZ1 hZ2
      go_enter Try.func6, Try.ntmps6
      go_wp2_with (first | (go_at_call 10; (with_reducible refine (awake_true _ _ (Gar.refl _)).mono ?_); rintro e w' ⟨rfl, os1, n1, rfl⟩) | (go_at_call 12; (with_reducible refine (check_ok _ _ h _).mono ?_); rintro e w' ⟨rfl, rfl⟩) | (go_at_call 14; (first | (with_reducible refine (C1 _).mono ?_) | (with_reducible refine (C2 _).mono ?_) | (with_reducible refine (C3 _).mono ?_)); rintro e w' ⟨rfl, rfl⟩) | (go_at_call 16; (first | (with_reducible refine (Q1 _).mono ?_) | (with_reducible refine (Q2 _).mono ?_)); rintro e w' ⟨rfl, os2, n2, rfl⟩) | (go_at_call 17; (first | (with_reducible refine (S1 _).mono ?_) | (with_reducible refine (S2 _).mono ?_)); rintro e w' ⟨rfl, os3, n3, rfl⟩))
      all_goals
        go_returns
        exact ⟨rfl, show Bel _ _ from Gar.bel (by repeat (first | exact Gar.refl _ | refine Gar.drewN ?_ _ | refine Gar.drew ?_ | refine Gar.alloc ?_ _ | refine Gar.allocs ?_ _))⟩
end Go.Proofs.Ytfigdflhegdjfaa
