/- The walk of the law ArctanBack. -/
import Derived.Test.YtlefnahclgccbaaAtnA
import Derived.Test.YtlefnahclgccbaaAtnP
import Derived.Test.YtlefnahclgccbaaFlat
namespace Go.Proofs.Ytlefnahclgccbaa
open Go.RowKit
set_option linter.unusedVariables false

theorem arctanBack_walk (a0 : Int) (a1 : Int) (w : World) (w0 : (Lit.int .i64 a0).wf = true) (w1 : (Lit.int .u32 a1).wf = true) :
    Calls Try.prog 5 #[.int .i64 a0, .int .u32 a1] w fun e w' => e = .returned (.bool true) ∧ Below w.heap.size w w' := by
  have hb := Bel.refl w
  have b0 := bounds_i64 w0
  have b1 := bounds_u32 w1
  have c1 := b_bd a0
  have hk : 1 ≤ 1 + a1 % 16777216 ∧ 1 + a1 % 16777216 ≤ 16777216 := by omega
  have e := back a0 (1 + a1 % 16777216) hk.1 hk.2
  have p1 : -549755813888 ≤ (1 + a1 % 16777216) * bc a0 ∧ (1 + a1 % 16777216) * bc a0 ≤ 549755813888 := by
    have q := prod_bd (x := bc a0) (y := 1 + a1 % 16777216) (m := 32768) (n := 16777216) (by omega) (by omega) (by omega)
    rw [Int.mul_comm]; omega
  have p2 : -549755813888 ≤ (1 + a1 % 16777216) * bs a0 ∧ (1 + a1 % 16777216) * bs a0 ≤ 549755813888 := by
    have q := prod_bd (x := bs a0) (y := 1 + a1 % 16777216) (m := 32768) (n := 16777216) (by omega) (by omega) (by omega)
    rw [Int.mul_comm]; omega
  go_enter Try.func5, Try.ntmps5
  go_wp2_with (first | (go_at_call 12; (with_reducible refine (awake_true _ _ (by assumption)).mono ?_); rintro e w' ⟨rfl, hb⟩) | (go_at_call 17; (with_reducible refine (both_any _ _ _ (by assumption)).mono ?_); rintro e w' ⟨rfl, hb⟩) | (go_at_call 13; (with_reducible refine (angle_any _ _ (wfi (by omega)) (wfi (by omega)) _ _ (by assumption)).mono ?_); rintro e w' ⟨rfl, hb⟩) | (go_at_call 18; (with_reducible refine (rnorm_any _ _).mono ?_); rintro e w' ⟨rfl, rfl⟩))
  all_goals
    go_returns
    exact ⟨rfl, (show Bel _ _ from by assumption)⟩
end Go.Proofs.Ytlefnahclgccbaa
