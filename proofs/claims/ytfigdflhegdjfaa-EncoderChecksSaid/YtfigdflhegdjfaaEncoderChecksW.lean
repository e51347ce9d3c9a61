/- The walk of the law EncoderChecks. -/
import Derived.Test.YtfigdflhegdjfaaEncA
import Derived.Test.YtfigdflhegdjfaaFlat
import Derived.Deep.DrawnRows
namespace Go.Proofs.Ytfigdflhegdjfaa
open Go.RowKit
set_option linter.unusedVariables false
attribute [local go_sem ↓] Go.wp_at_zero Go.wp_at_succ

set_option maxHeartbeats 4000000 in
theorem encoderChecks_walk (a0x0 a0x1 : Int) (w : World) (w0x0 : (Lit.int .i64 a0x0).wf = true) (w0x1 : (Lit.int .i64 a0x1).wf = true) :
    Calls Try.prog 3 #[.agg #[.int .i64 a0x0, .int .i64 a0x1]] w fun e w' => e = .returned (.bool true) ∧ Below w.heap.size w w' := by
  clear w0x0 w0x1
  obtain ⟨b, h⟩ : ∃ b, chkB a0x0 a0x1 = b := ⟨_, rfl⟩
  cases b
  · go_enter Try.func3, Try.ntmps3
    go_wp2_with (fail)
    go_region_held3 (fun w' => w'.cell? ⟨w.heap.size, 0, none⟩ = some (.int .i64 a0x0) ∧ w'.cell? ⟨w.heap.size, 1, none⟩ = some (.int .i64 a0x1))
      ((refine ⟨?_, ?_⟩ <;> first | assumption | (simp; done) | go_simp))
      (first
        | (go_at_call 10; (with_reducible refine (awake_true _ _ (Gar.refl _)).mono ?_); rintro e w' ⟨rfl, os1, n1, rfl⟩)
        | (go_at_call 12; (with_reducible refine (check_bad _ _ h _).mono ?_); rintro e w' ⟨rfl, rfl⟩)
        | (go_at_call 13; (with_reducible refine (rcheck_bad _ _ h _).mono ?_); rintro e w' ⟨rfl, rfl⟩)
        | (go_at_call 11; (first | (with_reducible refine (num_errno _ _).mono ?_) | (with_reducible refine (num_nil _).mono ?_)); rintro e w' ⟨rfl, rfl⟩)
      )
    all_goals
      go_wp2_with (fail)
      go_returns
      exact ⟨rfl, show Bel _ _ from Gar.bel (by repeat (first | exact Gar.refl _ | refine Gar.drewN ?_ _ | refine Gar.drew ?_ | refine Gar.alloc ?_ _ | refine Gar.allocs ?_ _))⟩
  · go_enter Try.func3, Try.ntmps3
    go_wp2_with (fail)
    go_region_held3 (fun w' => w'.cell? ⟨w.heap.size, 0, none⟩ = some (.int .i64 a0x0) ∧ w'.cell? ⟨w.heap.size, 1, none⟩ = some (.int .i64 a0x1))
      ((refine ⟨?_, ?_⟩ <;> first | assumption | (simp; done) | go_simp))
      (first
        | (go_at_call 10; (with_reducible refine (awake_true _ _ (Gar.refl _)).mono ?_); rintro e w' ⟨rfl, os1, n1, rfl⟩)
        | (go_at_call 12; (with_reducible refine (check_ok _ _ h _).mono ?_); rintro e w' ⟨rfl, rfl⟩)
        | (go_at_call 13; (with_reducible refine (rcheck_ok _ _ h _).mono ?_); rintro e w' ⟨rfl, rfl⟩)
        | (go_at_call 11; (first | (with_reducible refine (num_errno _ _).mono ?_) | (with_reducible refine (num_nil _).mono ?_)); rintro e w' ⟨rfl, rfl⟩)
      )
    all_goals
      go_wp2_with (fail)
      go_returns
      exact ⟨rfl, show Bel _ _ from Gar.bel (by repeat (first | exact Gar.refl _ | refine Gar.drewN ?_ _ | refine Gar.drew ?_ | refine Gar.alloc ?_ _ | refine Gar.allocs ?_ _))⟩
end Go.Proofs.Ytfigdflhegdjfaa
