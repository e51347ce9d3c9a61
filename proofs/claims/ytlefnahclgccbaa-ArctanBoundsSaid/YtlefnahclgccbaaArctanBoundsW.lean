/- The walk of the law ArctanBounds. -/
import Derived.Test.YtlefnahclgccbaaAtnA
import Derived.Test.YtlefnahclgccbaaAtnP
import Derived.Test.YtlefnahclgccbaaFlat
namespace Go.Proofs.Ytlefnahclgccbaa
open Go.RowKit
set_option linter.unusedVariables false

set_option maxHeartbeats 1000000 in
theorem arctanBounds_walk (a0 : Int) (a1 : Int) (w : World) (w0 : (Lit.int .i64 a0).wf = true) (w1 : (Lit.int .i64 a1).wf = true) :
    Calls Try.prog 6 #[.int .i64 a0, .int .i64 a1] w fun e w' => e = .returned (.bool true) ∧ Below w.heap.size w w' := by
  have hb := Bel.refl w
  have bX := clp_bd a0 (-1099511627776) 1099511627776 (by omega)
  obtain ⟨X, hX⟩ : ∃ X, clp a0 (-1099511627776) 1099511627776 = X := ⟨_, rfl⟩
  rw [hX] at bX
  have bY := clp_bd a1 (-1099511627776) 1099511627776 (by omega)
  obtain ⟨Y, hY⟩ : ∃ X, clp a1 (-1099511627776) 1099511627776 = X := ⟨_, rfl⟩
  rw [hY] at bY
  have hA := angle_bd X Y
  by_cases h0 : X = 0 ∧ Y = 0
  · obtain ⟨rfl, rfl⟩ := h0
    have e : angle 0 0 = 0 := by
      have h1 : sm 0 0 = (0, 0) := sm_near (by decide)
      have h2 : vx 0 0 = 1 := by unfold vx; rw [h1]; decide
      have h3 : vy 0 0 = 0 := by unfold vy; rw [h1]; decide
      have := ex_angle (b := 0) (x := 1) (y := 0) (ex_cone (by decide +kernel)) (by omega) (by decide) (by omega)
      rw [angle_near (by decide) (by omega)] at this
      unfold angle
      rw [h2, h3]
      exact this
    clear hA
    go_enter Try.func6, Try.ntmps6
    go_wp2_with (first | (go_at_call 12; (with_reducible refine (awake_true _ _ (by assumption)).mono ?_); rintro e w' ⟨rfl, hb⟩) | (go_at_call 19; (with_reducible refine (clip_any _ _ _ _).mono ?_); rintro e w' ⟨rfl, rfl⟩) | (go_at_call 13; (with_reducible refine (angle_any _ _ (wfi (by omega)) (wfi (by omega)) _ _ (by assumption)).mono ?_); rintro e w' ⟨rfl, hb⟩))
    all_goals
      go_returns
      exact ⟨rfl, (show Bel _ _ from by assumption)⟩
  · have hc := angle_cone (x := X) (y := Y) (by omega) h0
    obtain ⟨g1, g2, g3⟩ := hc
    unfold crs at g1 g2
    unfold dt at g3
    have c1 := b_bd (angle X Y)
    have c2 := b_bd (angle X Y + 1)
    have p1 := pb3 (m := 1099511627776) c1.1 bX
    have p2 := pb3 (m := 1099511627776) c1.1 bY
    have p3 := pb3 (m := 1099511627776) c1.2 bX
    have p4 := pb3 (m := 1099511627776) c1.2 bY
    have p5 := pb3 (m := 1099511627776) c2.1 bY
    have p6 := pb3 (m := 1099511627776) c2.2 bX
    have g4 : bs (angle X Y) * X ≤ bc (angle X Y) * Y := by omega
    have g5 : bc (angle X Y + 1) * Y < bs (angle X Y + 1) * X := by omega
    have hz : (X == 0) = true ∧ (Y == 0) = false ∨ (X == 0) = false := by
      by_cases g : X = 0
      · exact .inl ⟨by simpa using g, by simpa using fun e => h0 ⟨g, e⟩⟩
      · exact .inr (by simpa using g)
    clear h0
    rcases hz with ⟨z1, z2⟩ | z1
    · go_enter Try.func6, Try.ntmps6
      go_wp2_with (first | (go_at_call 12; (with_reducible refine (awake_true _ _ (by assumption)).mono ?_); rintro e w' ⟨rfl, hb⟩) | (go_at_call 19; (with_reducible refine (clip_any _ _ _ _).mono ?_); rintro e w' ⟨rfl, rfl⟩) | (go_at_call 13; (with_reducible refine (angle_any _ _ (wfi (by omega)) (wfi (by omega)) _ _ (by assumption)).mono ?_); rintro e w' ⟨rfl, hb⟩) | (go_at_call 20; (with_reducible refine (rboth_any _ _ _ (by assumption)).mono ?_); rintro e w' ⟨rfl, hb⟩))
      all_goals
        go_returns
        exact ⟨rfl, (show Bel _ _ from by assumption)⟩
    · go_enter Try.func6, Try.ntmps6
      go_wp2_with (first | (go_at_call 12; (with_reducible refine (awake_true _ _ (by assumption)).mono ?_); rintro e w' ⟨rfl, hb⟩) | (go_at_call 19; (with_reducible refine (clip_any _ _ _ _).mono ?_); rintro e w' ⟨rfl, rfl⟩) | (go_at_call 13; (with_reducible refine (angle_any _ _ (wfi (by omega)) (wfi (by omega)) _ _ (by assumption)).mono ?_); rintro e w' ⟨rfl, hb⟩) | (go_at_call 20; (with_reducible refine (rboth_any _ _ _ (by assumption)).mono ?_); rintro e w' ⟨rfl, hb⟩))
      all_goals
        go_returns
        exact ⟨rfl, (show Bel _ _ from by assumption)⟩
end Go.Proofs.Ytlefnahclgccbaa
