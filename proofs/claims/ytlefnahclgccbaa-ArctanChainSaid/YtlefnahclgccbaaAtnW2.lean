/- The walks of arctan.first, Angle and of the reference's. -/
import Derived.Test.YtlefnahclgccbaaAtnW
namespace Go.Proofs.Ytlefnahclgccbaa
open Go.RowKit

set_option maxHeartbeats 2000000 in
theorem first_vec (x y : Int) (wx : (Lit.int .i64 x).wf = true) (wy : (Lit.int .i64 y).wf = true) (w : World) : Calls Try.prog 24 #[.int .i64 x, .int .i64 y] w fun e w' => e = .returned (.tuple #[.int .i64 (fx x y), .int .i64 (fy x y), .int .i64 (fq x y)]) ∧ w = w' := by
  have hx := bounds_i64 wx
  have hy := bounds_i64 wy
  go_enter Try.func24, Try.ntmps24
  go_wp2_with (fail)
  go_loop [0, 1] (fun s t => ∃ X Y : Int, s = .int .i64 X ∧ t = .int .i64 Y ∧ sm X Y = sm x y ∧ (-9223372036854775808 ≤ X ∧ X ≤ 9223372036854775807) ∧ (-9223372036854775808 ≤ Y ∧ Y ≤ 9223372036854775807)) (fun s t => (intOf s).natAbs + (intOf t).natAbs)
  case atStart => exact ⟨x, y, rfl, rfl, rfl, hx, hy⟩
  case round =>
    obtain ⟨X, Y, rfl, rfl, hE, hX, hY⟩ := hrel
    by_cases hn : (-1099511627776 ≤ X ∧ X ≤ 1099511627776) ∧ (-1099511627776 ≤ Y ∧ Y ≤ 1099511627776)
    · have hs := sm_stop hn
      rw [hE] at hs
      have f1 := far1_no hn.1
      have f2 := far1_no hn.2
      have hv1 : vx x y = if X = 0 ∧ Y = 0 then 1 else X := by unfold vx; rw [hs]
      have hv2 : vy x y = if X = 0 ∧ Y = 0 then 0 else Y := by unfold vy; rw [hs]
      clear hs hE
      by_cases h0 : X = 0 ∧ Y = 0
      · obtain ⟨rfl, rfl⟩ := h0
        rw [if_pos ⟨rfl, rfl⟩] at hv1 hv2
        have r1 : fx x y = 1 := by unfold fx; rw [hv1, hv2]; decide
        have r2 : fy x y = 0 := by unfold fy; rw [hv1, hv2]; decide
        have r3 : fq x y = 0 := by unfold fq; rw [hv1, hv2]; decide
        have hr := hide (And.intro r1 (And.intro r2 r3))
        clear r1 r2 r3 hv1 hv2
        go_wp2_with (go_at_call 33; (with_reducible refine (far_any _ _).mono ?_); rintro e w' ⟨rfl, rfl⟩)
        go_returns
        exact ⟨ret_three hr.out.1.symm hr.out.2.1.symm hr.out.2.2.symm, rfl⟩
      · rw [if_neg h0] at hv1 hv2
        have hz : (X == 0) = true ∧ (Y == 0) = false ∨ (X == 0) = false := by
          by_cases g : X = 0
          · exact .inl ⟨by simpa using g, by simpa using fun e => h0 ⟨g, e⟩⟩
          · exact .inr (by simpa using g)
        have r1 : fx x y = ux X Y := by unfold fx; rw [hv1, hv2]
        have r2 : fy x y = uy X Y := by unfold fy; rw [hv1, hv2]
        have r3 : fq x y = qn X Y := by unfold fq; rw [hv1, hv2]
        have hr := hide (And.intro r1 (And.intro r2 r3))
        clear r1 r2 r3 hv1 hv2
        rcases (show (0 < X ∧ 0 ≤ Y) ∨ (X ≤ 0 ∧ 0 < Y) ∨ (X < 0 ∧ Y ≤ 0) ∨ (0 ≤ X ∧ Y < 0) by omega) with h | h | h | h
        all_goals
          rcases hz with ⟨z1, z2⟩ | z1
          all_goals
            clear h0
            go_wp2_with (go_at_call 33; (with_reducible refine (far_any _ _).mono ?_); rintro e w' ⟨rfl, rfl⟩)
            first
            | (refine wp_loop_rounds 4 ?_
               repeat any_goals (rw [rounds_succ]; go_wp2)
               all_goals (try go_returns)
               all_goals
                 refine ⟨ret_three ?_ ?_ ?_, rfl⟩
                 · rw [hr.out.1]; unfold ux qn; simp_all; try omega
                 · rw [hr.out.2.1]; unfold uy qn; simp_all; try omega
                 · rw [hr.out.2.2]; unfold qn; simp_all; try omega)
            | (exfalso; simp at z1; omega)
    · obtain ⟨s1, s2⟩ := sm_step hn
      rw [hE] at s1
      have hS := hide s1
      have hM := hide s2
      clear s1 s2 hE
      have t1 := tdiv_le_abs X 2 9223372036854775808 (by omega) (by omega)
      have t2 := tdiv_le_abs Y 2 9223372036854775808 (by omega) (by omega)
      have t3 := half_le X hX
      have t4 := half_le Y hY
      have hf : far1 X = true ∨ (far1 X = false ∧ far1 Y = true) := by
        by_cases g : -1099511627776 ≤ X ∧ X ≤ 1099511627776
        · exact .inr ⟨far1_no g, far1_yes (by omega)⟩
        · exact .inl (far1_yes (by omega))
      rcases hf with f | ⟨f, f'⟩
      all_goals
        clear hn
        go_wp2_with (go_at_call 33; (with_reducible refine (far_any _ _).mono ?_); rintro e w' ⟨rfl, rfl⟩)
        go_round
        case rel => exact ⟨_, _, rfl, rfl, hS.out, t3, t4⟩
        case measure => have := hM.out; simp only [intOf]; exact this
end Go.Proofs.Ytlefnahclgccbaa
