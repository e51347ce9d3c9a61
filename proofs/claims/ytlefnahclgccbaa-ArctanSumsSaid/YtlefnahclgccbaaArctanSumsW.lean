/- The walk of the law ArctanSums. -/
import Derived.Test.YtlefnahclgccbaaAtnA
import Derived.Test.YtlefnahclgccbaaAtnP
import Derived.Test.YtlefnahclgccbaaAtnS
import Derived.Test.YtlefnahclgccbaaMax
import Derived.Test.YtlefnahclgccbaaFlat
namespace Go.Proofs.Ytlefnahclgccbaa
open Go.RowKit
set_option linter.unusedVariables false

set_option maxHeartbeats 1000000 in
theorem arctanSums_walk (a0 : Int) (a1 : Int) (a2 : Int) (w : World) (w0 : (Lit.int .i64 a0).wf = true) (w1 : (Lit.int .i64 a1).wf = true) (w2 : (Lit.int .i64 a2).wf = true) :
    Calls Try.prog 10 #[.int .i64 a0, .int .i64 a1, .int .i64 a2] w fun e w' => e = .returned (.bool true) ∧ Below w.heap.size w w' := by
  have hb := Bel.refl w
  have bX := clp_bd a0 (-1073741824) 1073741824 (by omega)
  obtain ⟨X, hX⟩ : ∃ X, clp a0 (-1073741824) 1073741824 = X := ⟨_, rfl⟩
  rw [hX] at bX
  have bY := clp_bd a1 (-1073741824) 1073741824 (by omega)
  obtain ⟨Y, hY⟩ : ∃ X, clp a1 (-1073741824) 1073741824 = X := ⟨_, rfl⟩
  rw [hY] at bY
  by_cases h : mx4 X (-X) Y (-Y) < 1048576
  · go_enter Try.func10, Try.ntmps10
    go_wp2_with (first | (go_at_call 12; (with_reducible refine (awake_true _ _ (by assumption)).mono ?_); rintro e w' ⟨rfl, hb⟩) | (go_at_call 19; (with_reducible refine (clip_any _ _ _ _).mono ?_); rintro e w' ⟨rfl, rfl⟩))
    all_goals
      go_returns
      exact ⟨rfl, (show Bel _ _ from by assumption)⟩
  · have hm : 1048576 ≤ X ∨ X ≤ -1048576 ∨ 1048576 ≤ Y ∨ Y ≤ -1048576 := by
      rcases (show (1048576 ≤ X ∨ X ≤ -1048576 ∨ 1048576 ≤ Y ∨ Y ≤ -1048576) ∨ (X ≤ 1048575 ∧ -X ≤ 1048575 ∧ Y ≤ 1048575 ∧ -Y ≤ 1048575) by omega) with g | ⟨g1, g2, g3, g4⟩
      · exact g
      · have := mx4_le g1 g2 g3 g4
        omega
    have s1 := sums (x := X) (y := Y) (a := a2) bX bY hm
    obtain ⟨s2, s3⟩ := s1
    clear hm
    have c1 := b_bd a2
    have p1 := pb3 (m := 1073741824) c1.1 bX
    have p2 := pb3 (m := 1073741824) c1.2 bY
    have p3 := pb3 (m := 1073741824) c1.2 bX
    have p4 := pb3 (m := 1073741824) c1.1 bY
    have t1 := tdiv_le_abs (bc a2 * X - bs a2 * Y) 32768 70368744177664 (by omega) (by omega)
    have t2 := tdiv_le_abs (bs a2 * X + bc a2 * Y) 32768 70368744177664 (by omega) (by omega)
    have hn := nrm_bd a2
    have hA := angle_bd X Y
    go_enter Try.func10, Try.ntmps10
    go_wp2_with (first | (go_at_call 12; (with_reducible refine (awake_true _ _ (by assumption)).mono ?_); rintro e w' ⟨rfl, hb⟩) | (go_at_call 19; (with_reducible refine (clip_any _ _ _ _).mono ?_); rintro e w' ⟨rfl, rfl⟩) | (go_at_call 13; (with_reducible refine (angle_any _ _ (wfi (by omega)) (wfi (by omega)) _ _ (by assumption)).mono ?_); rintro e w' ⟨rfl, hb⟩) | (go_at_call 20; (with_reducible refine (rboth_any _ _ _ (by assumption)).mono ?_); rintro e w' ⟨rfl, hb⟩) | (go_at_call 18; (with_reducible refine (rnorm_any _ _).mono ?_); rintro e w' ⟨rfl, rfl⟩) | (go_at_call 21; (with_reducible refine (rdiff_any _ _ _).mono ?_); rintro e w' ⟨rfl, rfl⟩))
    all_goals
      go_returns
      exact ⟨rfl, (show Bel _ _ from by assumption)⟩
end Go.Proofs.Ytlefnahclgccbaa
