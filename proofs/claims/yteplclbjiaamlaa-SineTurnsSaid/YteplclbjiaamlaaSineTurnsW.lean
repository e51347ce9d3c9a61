/- The walk of the law SineTurns. -/
import Derived.Test.YteplclbjiaamlaaSinA
import Derived.Test.YteplclbjiaamlaaMax
import Derived.Test.YteplclbjiaamlaaFlat
namespace Go.Proofs.Yteplclbjiaamlaa
open Go.RowKit
set_option linter.unusedVariables false

theorem pr_bd (x y : Int) (h : -32768 ≤ x ∧ x ≤ 32768) (g : -32768 ≤ y ∧ y ≤ 32768) : -1073741824 ≤ x * y ∧ x * y ≤ 1073741824 := by
  have h1 : 0 ≤ (32768 - x) * (32768 + y) := Int.mul_nonneg (by omega) (by omega)
  have h2 : 0 ≤ (32768 + x) * (32768 - y) := Int.mul_nonneg (by omega) (by omega)
  have h3 : 0 ≤ (32768 - x) * (32768 - y) := Int.mul_nonneg (by omega) (by omega)
  have h4 : 0 ≤ (32768 + x) * (32768 + y) := Int.mul_nonneg (by omega) (by omega)
  have e1 : (32768 - x) * (32768 + y) = 1073741824 + 32768 * y - 32768 * x - x * y := by grind
  have e2 : (32768 + x) * (32768 - y) = 1073741824 - 32768 * y + 32768 * x - x * y := by grind
  have e3 : (32768 - x) * (32768 - y) = 1073741824 - 32768 * y - 32768 * x + x * y := by grind
  have e4 : (32768 + x) * (32768 + y) = 1073741824 + 32768 * y + 32768 * x + x * y := by grind
  omega

set_option maxHeartbeats 400000 in
theorem sineTurns_walk (a0 : Int) (a1 : Int) (w : World) (w0 : (Lit.int .i64 a0).wf = true) (w1 : (Lit.int .u16 a1).wf = true) :
    Calls Try.prog 9 #[.int .i64 a0, .int .u16 a1] w fun e w' => e = .returned (.bool true) ∧ Below w.heap.size w w' := by
  have hb := Bel.refl w
  have bn := bounds_u16 w1
  have bA := clp_bd a0 (-1152921504606846976) 1152921504606846976 (by omega)
  obtain ⟨A, hA⟩ : ∃ A, clp a0 (-1152921504606846976) 1152921504606846976 = A := ⟨_, rfl⟩
  rw [hA] at bA
  have b1 := b_bd A
  have b2 := b_bd (A + (1 + a1 % 32767))
  have e1 : bs A * bc (A + (1 + a1 % 32767)) < bc A * bs (A + (1 + a1 % 32767)) := by have := b_turn A (1 + a1 % 32767) (by omega) (by omega); omega
  have p1 := pr_bd _ _ b1.1 b2.2
  have p2 := pr_bd _ _ b1.2 b2.1
  have m2 := mx6_le (x := bc A) (y := -bc A) (z := bs A) (u := -bs A) (v := bc (A + (1 + a1 % 32767))) (t := -bc (A + (1 + a1 % 32767))) (m := 32768) (by omega) (by omega) (by omega) (by omega) (by omega) (by omega)
  go_enter Try.func9, Try.ntmps9
  go_wp2_with (first | (go_at_call 11; (with_reducible refine (awake_true _ _ (by assumption)).mono ?_); rintro e w' ⟨rfl, hb⟩) | (go_at_call 21; (with_reducible refine (clip_any _ _ _ _).mono ?_); rintro e w' ⟨rfl, rfl⟩) | (go_at_call 12; (with_reducible refine (both_any _ _ _ (by assumption)).mono ?_); rintro e w' ⟨rfl, hb⟩))
  all_goals
    go_returns
    exact ⟨rfl, (show Bel _ _ from by assumption)⟩
end Go.Proofs.Yteplclbjiaamlaa
