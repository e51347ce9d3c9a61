/- The walk of the law EncoderSteps. -/
import Derived.Test.YtfigdflhegdjfaaEncA
import Derived.Test.YtfigdflhegdjfaaFlat
import Derived.Deep.DrawnRows
namespace Go.Proofs.Ytfigdflhegdjfaa
open Go.RowKit
set_option linter.unusedVariables false
attribute [local go_sem ↓] Go.wp_at_zero Go.wp_at_succ

set_option maxHeartbeats 4000000 in
theorem encoderSteps_walk (a0x0 a0x1 : Int) (a1x0 a1x1 a1x2 a1x3 : Int) (a1x4 a1x5 a1x6 : Bool) (a2x0 a2x1 a2x2 : Bool) (w : World) (w0x0 : (Lit.int .i64 a0x0).wf = true) (w0x1 : (Lit.int .i64 a0x1).wf = true) (w1x0 : (Lit.int .i64 a1x0).wf = true) (w1x1 : (Lit.int .i64 a1x1).wf = true) (w1x2 : (Lit.int .i64 a1x2).wf = true) (w1x3 : (Lit.int .i64 a1x3).wf = true) :
    Calls Try.prog 7 #[.agg #[.int .i64 a0x0, .int .i64 a0x1], .agg #[.int .i64 a1x0, .int .i64 a1x1, .int .i64 a1x2, .int .i64 a1x3, .bool a1x4, .bool a1x5, .bool a1x6], .agg #[.bool a2x0, .bool a2x1, .bool a2x2]] w fun e w' => e = .returned (.bool true) ∧ Below w.heap.size w w' := by
  clear w0x0 w0x1 w1x1 w1x2 w1x3
  obtain ⟨b, h⟩ : ∃ b, chkB a0x0 a0x1 = b := ⟨_, rfl⟩
  cases b
  · clear w1x0
    go_enter Try.func7, Try.ntmps7
    go_wp2_with (first | (go_at_call 10; (with_reducible refine (awake_true _ _ (Gar.refl _)).mono ?_); rintro e w' ⟨rfl, os1, n1, rfl⟩) | (go_at_call 15; (with_reducible refine (step_bad _ _ _ _ _ _ _ _ _ _ _ _ h _ _ (Gar.refl _)).mono ?_); rintro e w' ⟨rfl, os2, n2, rfl⟩) | (go_at_call 20; (with_reducible refine (angle_bad _ _ _ _ _ _ _ _ _ h _ _ (Gar.refl _)).mono ?_); rintro e w' ⟨rfl, os3, n3, rfl⟩) | (go_at_call 13; (with_reducible refine (rcheck_bad _ _ h _).mono ?_); rintro e w' ⟨rfl, rfl⟩) | (go_at_call 11; (first | (with_reducible refine (num_errno _ _).mono ?_) | (with_reducible refine (num_nil _).mono ?_)); rintro e w' ⟨rfl, rfl⟩))
    go_returns
    exact ⟨rfl, show Bel _ _ from Gar.bel (by repeat (first | exact Gar.refl _ | refine Gar.drewN ?_ _ | refine Gar.drew ?_ | refine Gar.alloc ?_ _ | refine Gar.allocs ?_ _))⟩
  · have P1 := fun w => step_ok a0x0 a0x1 a1x0 a1x1 a1x2 a1x3 a1x4 a1x5 a1x6 a2x0 a2x1 a2x2 h w1x0 w w (Gar.refl _)
    have P2 := fun w => rstep_ok a0x0 a0x1 a1x0 a1x1 a1x2 a1x3 a1x4 a1x5 a1x6 a2x0 a2x1 a2x2 h w1x0 w w (Gar.refl _)
    have P3 := fun w => angle_ok a0x0 a0x1 a1x0 a1x1 a1x2 a1x3 a1x4 a1x5 a1x6 h w w (Gar.refl _)
    have P4 := fun w => rangle_ok a0x0 a0x1 a1x0 a1x1 a1x2 a1x3 a1x4 a1x5 a1x6 h w w (Gar.refl _)
    generalize phs a2x0 a2x1 = t0 at *
    generalize stC (a0x0 * a0x1) a1x0 a1x1 a1x4 a1x5 a1x6 a2x0 a2x1 a2x2 = t1 at *
    generalize stE a1x0 a1x2 a1x6 a2x0 a2x1 = t2 at *
    generalize stS (a0x0 * a0x1) a1x0 a1x1 a1x3 a1x4 a1x5 a1x6 a2x0 a2x1 a2x2 = t3 at *
    generalize stK a1x4 a1x5 a1x6 a2x2 = t4 at *
    generalize agl a0x0 a1x1 = t7 at *
    clear w1x0
    go_enter Try.func7, Try.ntmps7
    go_wp2_with (first | (go_at_call 10; (with_reducible refine (awake_true _ _ (Gar.refl _)).mono ?_); rintro e w' ⟨rfl, os1, n1, rfl⟩) | (go_at_call 15; (with_reducible refine (P1 _).mono ?_); rintro e w' ⟨rfl, os2, n2, rfl⟩) | (go_at_call 20; (with_reducible refine (P3 _).mono ?_); rintro e w' ⟨rfl, os3, n3, rfl⟩) | (go_at_call 13; (with_reducible refine (rcheck_ok _ _ h _).mono ?_); rintro e w' ⟨rfl, rfl⟩) | (go_at_call 11; (first | (with_reducible refine (num_errno _ _).mono ?_) | (with_reducible refine (num_nil _).mono ?_)); rintro e w' ⟨rfl, rfl⟩))
    go_region_held3 (fun w' => w'.cell? ⟨w.heap.size, 0, none⟩ = some (.int .i64 a0x0) ∧ w'.cell? ⟨w.heap.size, 1, none⟩ = some (.int .i64 a0x1) ∧ w'.cell? ⟨w.heap.size + 1, 0, none⟩ = some (.int .i64 a1x0) ∧ w'.cell? ⟨w.heap.size + 1, 1, none⟩ = some (.int .i64 a1x1) ∧ w'.cell? ⟨w.heap.size + 1, 2, none⟩ = some (.int .i64 a1x2) ∧ w'.cell? ⟨w.heap.size + 1, 3, none⟩ = some (.int .i64 a1x3) ∧ w'.cell? ⟨w.heap.size + 1, 4, none⟩ = some (.bool a1x4) ∧ w'.cell? ⟨w.heap.size + 1, 5, none⟩ = some (.bool a1x5) ∧ w'.cell? ⟨w.heap.size + 1, 6, none⟩ = some (.bool a1x6) ∧ w'.cell? ⟨w.heap.size + 1 + 1, 0, none⟩ = some (.bool a2x0) ∧ w'.cell? ⟨w.heap.size + 1 + 1, 1, none⟩ = some (.bool a2x1) ∧ w'.cell? ⟨w.heap.size + 1 + 1, 2, none⟩ = some (.bool a2x2) ∧ w'.cell? ⟨w.heap.size + 1 + 1 + 1 + os1.length + os2.length, 0, none⟩ = some (.int .i64 t0) ∧ w'.cell? ⟨w.heap.size + 1 + 1 + 1 + os1.length + os2.length, 1, none⟩ = some (.int .i64 t1) ∧ w'.cell? ⟨w.heap.size + 1 + 1 + 1 + os1.length + os2.length, 2, none⟩ = some (.int .i64 t2) ∧ w'.cell? ⟨w.heap.size + 1 + 1 + 1 + os1.length + os2.length, 3, none⟩ = some (.int .i64 t3) ∧ w'.cell? ⟨w.heap.size + 1 + 1 + 1 + os1.length + os2.length, 4, none⟩ = some (.bool t4) ∧ w'.cell? ⟨w.heap.size + 1 + 1 + 1 + os1.length + os2.length, 5, none⟩ = some (.bool a2x2) ∧ w'.cell? ⟨w.heap.size + 1 + 1 + 1 + os1.length + os2.length, 6, none⟩ = some (.bool true))
      ((refine ⟨?_, ?_, ?_, ?_, ?_, ?_, ?_, ?_, ?_, ?_, ?_, ?_, ?_, ?_, ?_, ?_, ?_, ?_, ?_⟩ <;> first | assumption | (simp; done) | go_simp))
      (first
        | (go_at_call 21; (with_reducible refine (P2 _).mono ?_); rintro e w' ⟨rfl, os4, n4, rfl⟩)
        | (go_at_call 22; (with_reducible refine (P4 _).mono ?_); rintro e w' ⟨rfl, os5, n5, rfl⟩)
      )
    all_goals
      go_wp2_with (fail)
      go_returns
      exact ⟨rfl, show Bel _ _ from Gar.bel (by repeat (first | exact Gar.refl _ | refine Gar.drewN ?_ _ | refine Gar.drew ?_ | refine Gar.alloc ?_ _ | refine Gar.allocs ?_ _))⟩
end Go.Proofs.Ytfigdflhegdjfaa
