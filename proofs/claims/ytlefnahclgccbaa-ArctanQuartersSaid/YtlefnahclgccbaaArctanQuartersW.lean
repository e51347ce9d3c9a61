/- The walk of the law ArctanQuarters. -/
import Derived.Test.YtlefnahclgccbaaAtnA
import Derived.Test.YtlefnahclgccbaaAtnP
import Derived.Test.YtlefnahclgccbaaFlat
namespace Go.Proofs.Ytlefnahclgccbaa
open Go.RowKit
set_option linter.unusedVariables false

set_option maxHeartbeats 1000000 in
theorem arctanQuarters_walk (a0 : Int) (a1 : Int) (a2 : Int) (w : World) (w0 : (Lit.int .i64 a0).wf = true) (w1 : (Lit.int .i64 a1).wf = true) (w2 : (Lit.int .u8 a2).wf = true) :
    Calls Try.prog 9 #[.int .i64 a0, .int .i64 a1, .int .u8 a2] w fun e w' => e = .returned (.bool true) ∧ Below w.heap.size w w' := by
  have hb := Bel.refl w
  have bX := clp_bd a0 (-4294967296) 4294967296 (by omega)
  obtain ⟨X, hX⟩ : ∃ X, clp a0 (-4294967296) 4294967296 = X := ⟨_, rfl⟩
  rw [hX] at bX
  have bY := clp_bd a1 (-4294967296) 4294967296 (by omega)
  obtain ⟨Y, hY⟩ : ∃ X, clp a1 (-4294967296) 4294967296 = X := ⟨_, rfl⟩
  rw [hY] at bY
  have b2 := bounds_u8 w2
  by_cases h0 : X = 0 ∧ Y = 0
  · obtain ⟨rfl, rfl⟩ := h0
    go_enter Try.func9, Try.ntmps9
    go_wp2_with (first | (go_at_call 12; (with_reducible refine (awake_true _ _ (by assumption)).mono ?_); rintro e w' ⟨rfl, hb⟩) | (go_at_call 19; (with_reducible refine (clip_any _ _ _ _).mono ?_); rintro e w' ⟨rfl, rfl⟩) | (go_at_call 13; (with_reducible refine (angle_any _ _ (wfi (by omega)) (wfi (by omega)) _ _ (by assumption)).mono ?_); rintro e w' ⟨rfl, hb⟩))
    all_goals
      go_returns
      exact ⟨rfl, (show Bel _ _ from by assumption)⟩
  · have hk : 1 ≤ 1 + a2 ∧ 1 + a2 ≤ 256 := by omega
    obtain ⟨e1, e2, e3, e4⟩ := quarters (x := X) (y := Y) (k := 1 + a2) bX bY h0 hk.1 hk.2
    have hA := angle_bd X Y
    have hB := angle_bd X (-Y)
    have p1 : -1099511627776 ≤ (1 + a2) * X ∧ (1 + a2) * X ≤ 1099511627776 := by
      have q := prod_bd (x := X) (y := 1 + a2) (m := 4294967296) (n := 256) (by omega) (by omega) (by omega)
      rw [Int.mul_comm]; omega
    have p2 : -1099511627776 ≤ (1 + a2) * Y ∧ (1 + a2) * Y ≤ 1099511627776 := by
      have q := prod_bd (x := Y) (y := 1 + a2) (m := 4294967296) (n := 256) (by omega) (by omega) (by omega)
      rw [Int.mul_comm]; omega
    have hz : (X == 0) = true ∧ (Y == 0) = false ∨ (X == 0) = false := by
      by_cases g : X = 0
      · exact .inl ⟨by simpa using g, by simpa using fun e => h0 ⟨g, e⟩⟩
      · exact .inr (by simpa using g)
    clear h0
    rcases hz with ⟨z1, z2⟩ | z1 <;> rcases e4 with e4 | e4
    all_goals
      go_enter Try.func9, Try.ntmps9
      go_wp2_with (first | (go_at_call 12; (with_reducible refine (awake_true _ _ (by assumption)).mono ?_); rintro e w' ⟨rfl, hb⟩) | (go_at_call 19; (with_reducible refine (clip_any _ _ _ _).mono ?_); rintro e w' ⟨rfl, rfl⟩) | (go_at_call 13; (with_reducible refine (angle_any _ _ (wfi (by omega)) (wfi (by omega)) _ _ (by assumption)).mono ?_); rintro e w' ⟨rfl, hb⟩) | (go_at_call 18; (with_reducible refine (rnorm_any _ _).mono ?_); rintro e w' ⟨rfl, rfl⟩))
      all_goals
        go_returns
        exact ⟨rfl, (show Bel _ _ from by assumption)⟩
end Go.Proofs.Ytlefnahclgccbaa
