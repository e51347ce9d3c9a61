/- The walk of the law AngleMiddle. -/
import Derived.Test.YtpcniocjedbbjaaAngA
import Derived.Test.YtpcniocjedbbjaaFlat
namespace Go.Proofs.Ytpcniocjedbbjaa
open Go.RowKit

theorem angleMiddle_walk (a0 : Int) (a1 : Int) (a2 : Int) (w : World) (_w0 : (Lit.int .i64 a0).wf = true) (_w1 : (Lit.int .i64 a1).wf = true) (_w2 : (Lit.int .i64 a2).wf = true) :
    Calls Try.prog 3 #[.int .i64 a0, .int .i64 a1, .int .i64 a2] w fun e w' => e = .returned (.bool true) ∧ Below w.heap.size w w' := by
  go_enter Try.func3, Try.ntmps3
  go_wp2_with (first | (go_at_call 13; refine (awake_true _).mono ?_; rintro e w' ⟨rfl, rfl⟩) | (go_at_call 14; refine (middle_any _ _ _ _).mono ?_; rintro e w' ⟨rfl, rfl⟩) | (go_at_call 15; refine (rmiddle_any _ _ _ _).mono ?_; rintro e w' ⟨rfl, rfl⟩))
  go_returns
  exact ⟨rfl, Below.refl _ _⟩
end Go.Proofs.Ytpcniocjedbbjaa
