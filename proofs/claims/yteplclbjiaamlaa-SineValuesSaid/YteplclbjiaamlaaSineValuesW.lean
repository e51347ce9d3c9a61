/- The walk of the law SineValues. -/
import Derived.Test.YteplclbjiaamlaaSinA
import Derived.Test.YteplclbjiaamlaaFlat
namespace Go.Proofs.Yteplclbjiaamlaa
open Go.RowKit
set_option linter.unusedVariables false

theorem sineValues_walk (a0 : Int) (w : World) (w0 : (Lit.int .i64 a0).wf = true) :
    Calls Try.prog 3 #[.int .i64 a0] w fun e w' => e = .returned (.bool true) ∧ Below w.heap.size w w' := by
  have hb := Bel.refl w
  go_enter Try.func3, Try.ntmps3
  go_wp2_with (first | (go_at_call 11; (with_reducible refine (awake_true _ _ (by assumption)).mono ?_); rintro e w' ⟨rfl, hb⟩) | (go_at_call 12; (with_reducible refine (both_any _ _ _ (by assumption)).mono ?_); rintro e w' ⟨rfl, hb⟩) | (go_at_call 15; (with_reducible refine (sin_any _ _ _ (by assumption)).mono ?_); rintro e w' ⟨rfl, hb⟩) | (go_at_call 14; (with_reducible refine (cos_any _ _ _ (by assumption)).mono ?_); rintro e w' ⟨rfl, hb⟩) | (go_at_call 13; (with_reducible refine (rboth_any _ _ _ (by assumption)).mono ?_); rintro e w' ⟨rfl, hb⟩))
  go_returns
  exact ⟨rfl, (show Bel _ _ from by assumption)⟩
end Go.Proofs.Yteplclbjiaamlaa
