/- The walk of the law SineSymmetric. -/
import Derived.Test.YteplclbjiaamlaaSinA
import Derived.Test.YteplclbjiaamlaaMax
import Derived.Test.YteplclbjiaamlaaFlat
namespace Go.Proofs.Yteplclbjiaamlaa
open Go.RowKit
set_option linter.unusedVariables false

theorem sineSymmetric_walk (a0 : Int) (w : World) (w0 : (Lit.int .i64 a0).wf = true) :
    Calls Try.prog 7 #[.int .i64 a0] w fun e w' => e = .returned (.bool true) ∧ Below w.heap.size w w' := by
  have hb := Bel.refl w
  have bA := clp_bd a0 (-1152921504606846976) 1152921504606846976 (by omega)
  obtain ⟨A, hA⟩ : ∃ A, clp a0 (-1152921504606846976) 1152921504606846976 = A := ⟨_, rfl⟩
  rw [hA] at bA
  have b1 := b_bd A
  have e1 := (b_neg A).2
  have e2 := b_half A
  have e3 := (b_rot A).2
  have e4 := (b_neg A).1
  have e5 : bs (A + 65536) = bs A := (b_nrm (by unfold nrm; omega)).2
  go_enter Try.func7, Try.ntmps7
  go_wp2_with (first | (go_at_call 11; (with_reducible refine (awake_true _ _ (by assumption)).mono ?_); rintro e w' ⟨rfl, hb⟩) | (go_at_call 21; (with_reducible refine (clip_any _ _ _ _).mono ?_); rintro e w' ⟨rfl, rfl⟩) | (go_at_call 15; (with_reducible refine (sin_any _ _ _ (by assumption)).mono ?_); rintro e w' ⟨rfl, hb⟩) | (go_at_call 14; (with_reducible refine (cos_any _ _ _ (by assumption)).mono ?_); rintro e w' ⟨rfl, hb⟩))
  go_returns
  exact ⟨rfl, (show Bel _ _ from by assumption)⟩
end Go.Proofs.Yteplclbjiaamlaa
