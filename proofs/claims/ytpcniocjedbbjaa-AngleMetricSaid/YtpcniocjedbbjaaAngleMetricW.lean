/- The walk of the law AngleMetric. -/
import Derived.Test.YtpcniocjedbbjaaAngA
import Derived.Test.YtpcniocjedbbjaaAngW2
import Derived.Test.YtpcniocjedbbjaaFlat
namespace Go.Proofs.Ytpcniocjedbbjaa
open Go.RowKit
set_option linter.unusedVariables false

theorem dst_zero (a b : Int) : (dst a b == 0) = (nrm a == nrm b) := by
  rw [Bool.eq_iff_iff]
  simp only [beq_iff_eq]
  unfold dst dif nrm
  omega
theorem dst_tri (a b c : Int) : dst a c ≤ dst a b + dst b c := by
  unfold dst dif
  omega

theorem angleMetric_walk (a0 : Int) (a1 : Int) (a2 : Int) (w : World) (w0 : (Lit.int .i64 a0).wf = true) (w1 : (Lit.int .i64 a1).wf = true) (w2 : (Lit.int .i64 a2).wf = true) :
    Calls Try.prog 5 #[.int .i64 a0, .int .i64 a1, .int .i64 a2] w fun e w' => e = .returned (.bool true) ∧ Below w.heap.size w w' := by
  have b1 := dst_bd a0 a1
  have b2 := dst_bd a1 a2
  have b3 := dst_bd a0 a2
  have e1 := dst_comm a1 a0
  have e2 := dst_zero a0 a1
  have e3 := dst_tri a0 a1 a2
  go_enter Try.func5, Try.ntmps5
  go_wp2_with (first | (go_at_call 13; refine (awake_true _).mono ?_; rintro e w' ⟨rfl, rfl⟩) | (go_at_call 17; refine (norm_any _ _).mono ?_; rintro e w' ⟨rfl, rfl⟩) | (go_at_call 19; refine (dist_any _ _ _).mono ?_; rintro e w' ⟨rfl, rfl⟩))
  go_returns
  exact ⟨rfl, Below.refl _ _⟩
end Go.Proofs.Ytpcniocjedbbjaa
