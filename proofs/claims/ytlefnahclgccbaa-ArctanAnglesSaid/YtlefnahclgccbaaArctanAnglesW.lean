/- The walk of the law ArctanAngles. -/
import Derived.Test.YtlefnahclgccbaaAtnA
import Derived.Test.YtlefnahclgccbaaAtnP
import Derived.Test.YtlefnahclgccbaaFlat
namespace Go.Proofs.Ytlefnahclgccbaa
open Go.RowKit
set_option linter.unusedVariables false

theorem arctanAngles_walk (a0 : Int) (a1 : Int) (w : World) (w0 : (Lit.int .i64 a0).wf = true) (w1 : (Lit.int .i64 a1).wf = true) :
    Calls Try.prog 3 #[.int .i64 a0, .int .i64 a1] w fun e w' => e = .returned (.bool true) ∧ Below w.heap.size w w' := by
  have hb := Bel.refl w
  have b0 := bounds_i64 w0
  have b1 := bounds_i64 w1
  go_enter Try.func3, Try.ntmps3
  go_wp2_with (first | (go_at_call 12; (with_reducible refine (awake_true _ _ (by assumption)).mono ?_); rintro e w' ⟨rfl, hb⟩) | (go_at_call 13; (with_reducible refine (angle_any _ _ (wfi (by omega)) (wfi (by omega)) _ _ (by assumption)).mono ?_); rintro e w' ⟨rfl, hb⟩) | (go_at_call 14; (with_reducible refine (rangle_any _ _ (wfi (by omega)) (wfi (by omega)) _ _ (by assumption)).mono ?_); rintro e w' ⟨rfl, hb⟩))
  all_goals
    go_returns
    exact ⟨rfl, (show Bel _ _ from by assumption)⟩
end Go.Proofs.Ytlefnahclgccbaa
