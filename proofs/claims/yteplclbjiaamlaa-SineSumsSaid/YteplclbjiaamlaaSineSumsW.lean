/- The walk of the law SineSums. -/
import Derived.Test.YteplclbjiaamlaaSinA
import Derived.Test.YteplclbjiaamlaaMax
import Derived.Test.YteplclbjiaamlaaHpS
import Derived.Test.YteplclbjiaamlaaFlat
namespace Go.Proofs.Yteplclbjiaamlaa
open Go.RowKit
set_option linter.unusedVariables false

set_option maxHeartbeats 400000 in
theorem sineSums_walk (a0 : Int) (a1 : Int) (w : World) (w0 : (Lit.int .i64 a0).wf = true) (w1 : (Lit.int .i64 a1).wf = true) :
    Calls Try.prog 10 #[.int .i64 a0, .int .i64 a1] w fun e w' => e = .returned (.bool true) ∧ Below w.heap.size w w' := by
  have hb := Bel.refl w
  have bA := clp_bd a0 (-1152921504606846976) 1152921504606846976 (by omega)
  obtain ⟨A, hA⟩ : ∃ A, clp a0 (-1152921504606846976) 1152921504606846976 = A := ⟨_, rfl⟩
  rw [hA] at bA
  have bB := clp_bd a1 (-1152921504606846976) 1152921504606846976 (by omega)
  obtain ⟨B, hB⟩ : ∃ B, clp a1 (-1152921504606846976) 1152921504606846976 = B := ⟨_, rfl⟩
  rw [hB] at bB
  have b1 := b_bd A
  have b2 := b_bd B
  have b3 := b_bd (A + B)
  obtain ⟨e1, e2⟩ := sine_sum A B
  have p1 := pb b1.2 b2.1
  have p2 := pb b1.1 b2.2
  have m1 := mx4_le (x := bc A) (y := -bc A) (z := bs A) (u := -bs A) (m := 32768) (by omega) (by omega) (by omega) (by omega)
  have m3 := mx4_le (x := bc B) (y := -bc B) (z := bs B) (u := -bs B) (m := 32768) (by omega) (by omega) (by omega) (by omega)
  go_enter Try.func10, Try.ntmps10
  go_wp2_with (first | (go_at_call 11; (with_reducible refine (awake_true _ _ (by assumption)).mono ?_); rintro e w' ⟨rfl, hb⟩) | (go_at_call 21; (with_reducible refine (clip_any _ _ _ _).mono ?_); rintro e w' ⟨rfl, rfl⟩) | (go_at_call 12; (with_reducible refine (both_any _ _ _ (by assumption)).mono ?_); rintro e w' ⟨rfl, hb⟩) | (go_at_call 15; (with_reducible refine (sin_any _ _ _ (by assumption)).mono ?_); rintro e w' ⟨rfl, hb⟩))
  all_goals
    go_returns
    exact ⟨rfl, (show Bel _ _ from by assumption)⟩
end Go.Proofs.Yteplclbjiaamlaa
