/- The walk of the law AngleInterp. -/
import Derived.Test.YtpcniocjedbbjaaAngA
import Derived.Test.YtpcniocjedbbjaaAngW2
import Derived.Test.YtpcniocjedbbjaaFlat
namespace Go.Proofs.Ytpcniocjedbbjaa
open Go.RowKit
set_option linter.unusedVariables false

theorem angleInterp_walk (a0 : Int) (a1 : Int) (a2x0 a2x1 : Int) (w : World) (w0 : (Lit.int .i64 a0).wf = true) (w1 : (Lit.int .i64 a1).wf = true) (w2x0 : (Lit.int .i64 a2x0).wf = true) (w2x1 : (Lit.int .i64 a2x1).wf = true) :
    Calls Try.prog 10 #[.int .i64 a0, .int .i64 a1, .agg #[.int .i64 a2x0, .int .i64 a2x1]] w fun e w' => e = .returned (.bool true) ∧ Below w.heap.size w w' := by
  by_cases h : prtB a2x0 a2x1 = true
  · go_enter Try.func10, Try.ntmps10
    go_wp2_with (first | (go_at_call 13; refine (awake_true _).mono ?_; rintro e w' ⟨rfl, rfl⟩) | (go_at_call 30; (refine (num_nil _).mono ?_); rintro e w' ⟨rfl, rfl⟩) | (go_at_call 28; (refine (interp_in _ _ _ _ h _).mono ?_); rintro e w' ⟨rfl, rfl⟩) | (go_at_call 29; refine (rinterp_in _ _ _ _ h _).mono ?_; rintro e w' ⟨rfl, rfl⟩))
    go_returns
    exact ⟨rfl, (Below.refl _ _).alloc (Nat.le_refl _) _⟩
  · have h2 : prtB a2x0 a2x1 = false := by simpa using h
    clear h
    go_enter Try.func10, Try.ntmps10
    go_wp2_with (first | (go_at_call 13; refine (awake_true _).mono ?_; rintro e w' ⟨rfl, rfl⟩) | (go_at_call 30; (refine (num_errno _ _).mono ?_); rintro e w' ⟨rfl, rfl⟩) | (go_at_call 28; refine (interp_out _ _ _ _ h2 _).mono ?_; rintro e w' ⟨rfl, rfl⟩) | (go_at_call 29; refine (rinterp_out _ _ _ _ h2 _).mono ?_; rintro e w' ⟨rfl, rfl⟩))
    go_returns
    exact ⟨rfl, (Below.refl _ _).alloc (Nat.le_refl _) _⟩
end Go.Proofs.Ytpcniocjedbbjaa
