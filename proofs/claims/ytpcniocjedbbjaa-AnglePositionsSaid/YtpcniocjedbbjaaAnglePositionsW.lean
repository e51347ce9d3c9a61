/- The walk of the law AnglePositions. -/
import Derived.Test.YtpcniocjedbbjaaAngA
import Derived.Test.YtpcniocjedbbjaaAngW2
import Derived.Test.YtpcniocjedbbjaaFlat
namespace Go.Proofs.Ytpcniocjedbbjaa
open Go.RowKit
set_option linter.unusedVariables false

theorem anglePositions_walk (a0 : Int) (a1 : Int) (a2 : Int) (w : World) (w0 : (Lit.int .i64 a0).wf = true) (w1 : (Lit.int .i64 a1).wf = true) (w2 : (Lit.int .i64 a2).wf = true) :
    Calls Try.prog 11 #[.int .i64 a0, .int .i64 a1, .int .i64 a2] w fun e w' => e = .returned (.bool true) ∧ Below w.heap.size w w' := by
  cases hp : posB a0
  · have hk : elcB a0 a1 = false := by simp [elcB, hp]
    go_enter Try.func11, Try.ntmps11
    go_wp2_with (first | (go_at_call 13; refine (awake_true _).mono ?_; rintro e w' ⟨rfl, rfl⟩) | (go_at_call 30; (with_reducible refine (num_errno _ _).mono ?_); rintro e w' ⟨rfl, rfl⟩) | (go_at_call 20; refine (unwrap_out _ _ hp _).mono ?_; rintro e w' ⟨rfl, rfl⟩) | (go_at_call 31; refine (runwrap_out _ _ hp _).mono ?_; rintro e w' ⟨rfl, rfl⟩) | (go_at_call 32; refine (electric_out _ _ _ hk _).mono ?_; rintro e w' ⟨rfl, rfl⟩) | (go_at_call 33; refine (relectric_out _ _ _ hk _).mono ?_; rintro e w' ⟨rfl, rfl⟩))
    go_returns
    exact ⟨rfl, Below.refl _ _⟩
  · cases hk : elcB a0 a1
    · go_enter Try.func11, Try.ntmps11
      go_wp2_with (first | (go_at_call 13; refine (awake_true _).mono ?_; rintro e w' ⟨rfl, rfl⟩) | (go_at_call 30; (with_reducible refine (num_nil _).mono ?_); rintro e w' ⟨rfl, rfl⟩) | (go_at_call 30; (with_reducible refine (num_errno _ _).mono ?_); rintro e w' ⟨rfl, rfl⟩) | (go_at_call 20; refine (unwrap_in _ _ hp _).mono ?_; rintro e w' ⟨rfl, rfl⟩) | (go_at_call 31; refine (runwrap_in _ _ hp _).mono ?_; rintro e w' ⟨rfl, rfl⟩) | (go_at_call 32; refine (electric_out _ _ _ hk _).mono ?_; rintro e w' ⟨rfl, rfl⟩) | (go_at_call 33; refine (relectric_out _ _ _ hk _).mono ?_; rintro e w' ⟨rfl, rfl⟩))
      go_returns
      exact ⟨rfl, Below.refl _ _⟩
    · go_enter Try.func11, Try.ntmps11
      go_wp2_with (first | (go_at_call 13; refine (awake_true _).mono ?_; rintro e w' ⟨rfl, rfl⟩) | (go_at_call 30; (with_reducible refine (num_nil _).mono ?_); rintro e w' ⟨rfl, rfl⟩) | (go_at_call 20; refine (unwrap_in _ _ hp _).mono ?_; rintro e w' ⟨rfl, rfl⟩) | (go_at_call 31; refine (runwrap_in _ _ hp _).mono ?_; rintro e w' ⟨rfl, rfl⟩) | (go_at_call 32; refine (electric_in _ _ _ hk _).mono ?_; rintro e w' ⟨rfl, rfl⟩) | (go_at_call 33; refine (relectric_in _ _ _ hk _).mono ?_; rintro e w' ⟨rfl, rfl⟩))
      go_returns
      exact ⟨rfl, Below.refl _ _⟩
end Go.Proofs.Ytpcniocjedbbjaa
