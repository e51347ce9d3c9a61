/- The walk of the law SineSteps. -/
import Derived.Test.YteplclbjiaamlaaSinA
import Derived.Test.YteplclbjiaamlaaMax
import Derived.Test.YteplclbjiaamlaaFlat
namespace Go.Proofs.Yteplclbjiaamlaa
open Go.RowKit
set_option linter.unusedVariables false

theorem sineSteps_walk (a0 : Int) (w : World) (w0 : (Lit.int .i64 a0).wf = true) :
    Calls Try.prog 8 #[.int .i64 a0] w fun e w' => e = .returned (.bool true) ∧ Below w.heap.size w w' := by
  have hb := Bel.refl w
  have bA := clp_bd a0 (-1152921504606846976) 1152921504606846976 (by omega)
  obtain ⟨A, hA⟩ : ∃ A, clp a0 (-1152921504606846976) 1152921504606846976 = A := ⟨_, rfl⟩
  rw [hA] at bA
  have b1 := b_bd A
  have b2 := b_bd (A + 1)
  obtain ⟨e1, e2, e3⟩ := b_step A
  have m1 := mx4_le (x := bc (A + 1) - bc A) (y := -(bc (A + 1) - bc A)) (z := bs (A + 1) - bs A) (u := -(bs (A + 1) - bs A)) (m := 4) (by omega) (by omega) (by omega) (by omega)
  by_cases h : 16384 ≤ nrm A
  · clear e3
    go_enter Try.func8, Try.ntmps8
    go_wp2_with (first | (go_at_call 11; (with_reducible refine (awake_true _ _ (by assumption)).mono ?_); rintro e w' ⟨rfl, hb⟩) | (go_at_call 21; (with_reducible refine (clip_any _ _ _ _).mono ?_); rintro e w' ⟨rfl, rfl⟩) | (go_at_call 12; (with_reducible refine (both_any _ _ _ (by assumption)).mono ?_); rintro e w' ⟨rfl, hb⟩) | (go_at_call 19; (with_reducible refine (rnorm_any _ _).mono ?_); rintro e w' ⟨rfl, rfl⟩))
    go_returns
    exact ⟨rfl, (show Bel _ _ from by assumption)⟩
  · obtain ⟨e4, e5⟩ := e3 (by omega)
    clear e3
    go_enter Try.func8, Try.ntmps8
    go_wp2_with (first | (go_at_call 11; (with_reducible refine (awake_true _ _ (by assumption)).mono ?_); rintro e w' ⟨rfl, hb⟩) | (go_at_call 21; (with_reducible refine (clip_any _ _ _ _).mono ?_); rintro e w' ⟨rfl, rfl⟩) | (go_at_call 12; (with_reducible refine (both_any _ _ _ (by assumption)).mono ?_); rintro e w' ⟨rfl, hb⟩) | (go_at_call 19; (with_reducible refine (rnorm_any _ _).mono ?_); rintro e w' ⟨rfl, rfl⟩))
    go_returns
    exact ⟨rfl, (show Bel _ _ from by assumption)⟩
end Go.Proofs.Yteplclbjiaamlaa
