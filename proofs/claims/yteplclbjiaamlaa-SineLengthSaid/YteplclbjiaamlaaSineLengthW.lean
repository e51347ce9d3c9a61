/- The walk of the law SineLength. -/
import Derived.Test.YteplclbjiaamlaaSinA
import Derived.Test.YteplclbjiaamlaaMax
import Derived.Test.YteplclbjiaamlaaFlat
namespace Go.Proofs.Yteplclbjiaamlaa
open Go.RowKit
set_option linter.unusedVariables false

theorem sq_bd (x : Int) (h : -32768 ≤ x ∧ x ≤ 32768) : 0 ≤ x * x ∧ x * x ≤ 1073741824 := by
  have h1 : 0 ≤ x * x := by
    rcases Int.le_total 0 x with h0 | h0
    · exact Int.mul_nonneg h0 h0
    · exact Int.mul_nonneg_of_nonpos_of_nonpos h0 h0
  have h2 : 0 ≤ (32768 - x) * (32768 + x) := Int.mul_nonneg (by omega) (by omega)
  have h3 : (32768 - x) * (32768 + x) = 1073741824 - x * x := by grind
  omega

theorem sineLength_walk (a0 : Int) (w : World) (w0 : (Lit.int .i64 a0).wf = true) :
    Calls Try.prog 5 #[.int .i64 a0] w fun e w' => e = .returned (.bool true) ∧ Below w.heap.size w w' := by
  have hb := Bel.refl w
  have b1 := b_bd a0
  have b2 := b_len a0
  have b3 := sq_bd (bc a0) b1.1
  have b4 := sq_bd (bs a0) b1.2
  have m1 := mx4_le (x := bc a0) (y := -bc a0) (z := bs a0) (u := -bs a0) (m := 32768) (by omega) (by omega) (by omega) (by omega)
  go_enter Try.func5, Try.ntmps5
  go_wp2_with (first | (go_at_call 11; (with_reducible refine (awake_true _ _ (by assumption)).mono ?_); rintro e w' ⟨rfl, hb⟩) | (go_at_call 12; (with_reducible refine (both_any _ _ _ (by assumption)).mono ?_); rintro e w' ⟨rfl, hb⟩))
  go_returns
  exact ⟨rfl, (show Bel _ _ from by assumption)⟩
end Go.Proofs.Yteplclbjiaamlaa
