/- The walk of the law MonitorConditions. -/
import Derived.Test.YtlppolaoigbkeaaMonA
import Derived.Test.YtlppolaoigbkeaaMonT
import Derived.Test.YtlppolaoigbkeaaFlat
namespace Go.Proofs.Ytlppolaoigbkeaa
open Go.RowKit
set_option linter.unusedVariables false
attribute [local go_sem ↓] Go.wp_at_zero Go.wp_at_succ

set_option maxRecDepth 100000 in
set_option maxHeartbeats 8000000 in
theorem monitorConditions_walk (a0x0 a0x1 a0x2 a0x3 a0x4 a0x5 a0x6 a0x7 a0x8 a0x9 : Int) (a1x0 a1x1 a1x2 a1x3 a1x4 a1x5 a1x6 : Int) (w : World) (w0x0 : (Lit.int .i64 a0x0).wf = true) (w0x1 : (Lit.int .i64 a0x1).wf = true) (w0x2 : (Lit.int .i64 a0x2).wf = true) (w0x3 : (Lit.int .i64 a0x3).wf = true) (w0x4 : (Lit.int .i64 a0x4).wf = true) (w0x5 : (Lit.int .i64 a0x5).wf = true) (w0x6 : (Lit.int .i64 a0x6).wf = true) (w0x7 : (Lit.int .i64 a0x7).wf = true) (w0x8 : (Lit.int .i64 a0x8).wf = true) (w0x9 : (Lit.int .i64 a0x9).wf = true) (w1x0 : (Lit.int .i64 a1x0).wf = true) (w1x1 : (Lit.int .i64 a1x1).wf = true) (w1x2 : (Lit.int .i64 a1x2).wf = true) (w1x3 : (Lit.int .i64 a1x3).wf = true) (w1x4 : (Lit.int .i64 a1x4).wf = true) (w1x5 : (Lit.int .i64 a1x5).wf = true) (w1x6 : (Lit.int .i64 a1x6).wf = true) :
    Calls Try.prog 4 #[.agg #[.int .i64 a0x0, .int .i64 a0x1, .int .i64 a0x2, .int .i64 a0x3, .int .i64 a0x4, .int .i64 a0x5, .int .i64 a0x6, .int .i64 a0x7, .int .i64 a0x8, .int .i64 a0x9], .agg #[.int .i64 a1x0, .int .i64 a1x1, .int .i64 a1x2, .int .i64 a1x3, .int .i64 a1x4, .int .i64 a1x5, .int .i64 a1x6]] w fun e w' => e = .returned (.bool true) ∧ Below w.heap.size w w' := by
  clear w0x0 w0x1 w0x2 w0x3 w0x4 w0x5 w0x6 w0x7 w0x8 w0x9
  clear w1x0 w1x1 w1x2 w1x3 w1x4 w1x5 w1x6
  obtain ⟨b, h⟩ : ∃ b, chkB a0x0 a0x1 a0x2 a0x3 a0x4 a0x5 a0x6 a0x7 a0x8 a0x9 = b := ⟨_, rfl⟩
  cases b
  · have KR := rcheck_bad a0x0 a0x1 a0x2 a0x3 a0x4 a0x5 a0x6 a0x7 a0x8 a0x9 h
    have K1 := fun w => cond_bad a0x0 a0x1 a0x2 a0x3 a0x4 a0x5 a0x6 a0x7 a0x8 a0x9 a1x0 a1x1 a1x2 a1x3 a1x4 a1x5 a1x6 h w w (Gar.refl _)
    clear h
    go_enter Try.func4, Try.ntmps4
    go_wp2_with (first | (go_at_call 10; (with_reducible refine (awake_true _ _ (Gar.refl _)).mono ?_); rintro e w' ⟨rfl, os1, n1, rfl⟩) | (go_at_call 14; (with_reducible refine (K1 _).mono ?_); rintro e w' ⟨rfl, os2, n2, rfl⟩) | (go_at_call 13; (with_reducible refine (KR _).mono ?_); rintro e w' ⟨rfl, rfl⟩) | (go_at_call 11; (first | (with_reducible refine (num_errno _ _).mono ?_) | (with_reducible refine (num_nil _).mono ?_)); rintro e w' ⟨rfl, rfl⟩))
    go_returns
    exact ⟨rfl, show Bel _ _ from Gar.bel (by repeat (first | exact Gar.refl _ | refine Gar.drewN ?_ _ | refine Gar.drew ?_ | refine Gar.alloc ?_ _ | refine Gar.allocs ?_ _))⟩
  · have KR := rcheck_ok a0x0 a0x1 a0x2 a0x3 a0x4 a0x5 a0x6 a0x7 a0x8 a0x9 h
    have K1 := fun w => cond_ok a0x0 a0x1 a0x2 a0x3 a0x4 a0x5 a0x6 a0x7 a0x8 a0x9 a1x0 a1x1 a1x2 a1x3 a1x4 a1x5 a1x6 h w w (Gar.refl _)
    have K2 := fun w => rcond_ok a0x0 a0x1 a0x2 a0x3 a0x4 a0x5 a0x6 a0x7 a0x8 a0x9 a1x0 a1x1 a1x2 a1x3 a1x4 a1x5 a1x6 w w (Gar.refl _)
    clear h
    generalize q0 a0x0 a1x0 a1x1 a1x2 = b0 at *
    generalize lostB a0x1 a0x2 a1x0 a1x1 a1x2 = b1 at *
    generalize q2 a0x3 a0x4 a1x3 a1x4 = b2 at *
    generalize q3 a0x5 a1x5 a1x6 = b3 at *
    go_enter Try.func4, Try.ntmps4
    go_wp2_with (first | (go_at_call 10; (with_reducible refine (awake_true _ _ (Gar.refl _)).mono ?_); rintro e w' ⟨rfl, os1, n1, rfl⟩) | (go_at_call 14; (with_reducible refine (K1 _).mono ?_); rintro e w' ⟨rfl, os2, n2, rfl⟩) | (go_at_call 13; (with_reducible refine (KR _).mono ?_); rintro e w' ⟨rfl, rfl⟩) | (go_at_call 11; (first | (with_reducible refine (num_errno _ _).mono ?_) | (with_reducible refine (num_nil _).mono ?_)); rintro e w' ⟨rfl, rfl⟩))
    go_region_held3 (fun w' => w'.cell? ⟨w.heap.size, 0, none⟩ = some (.int .i64 a0x0) ∧ w'.cell? ⟨w.heap.size, 1, none⟩ = some (.int .i64 a0x1) ∧ w'.cell? ⟨w.heap.size, 2, none⟩ = some (.int .i64 a0x2) ∧ w'.cell? ⟨w.heap.size, 3, none⟩ = some (.int .i64 a0x3) ∧ w'.cell? ⟨w.heap.size, 4, none⟩ = some (.int .i64 a0x4) ∧ w'.cell? ⟨w.heap.size, 5, none⟩ = some (.int .i64 a0x5) ∧ w'.cell? ⟨w.heap.size, 6, none⟩ = some (.int .i64 a0x6) ∧ w'.cell? ⟨w.heap.size, 7, none⟩ = some (.int .i64 a0x7) ∧ w'.cell? ⟨w.heap.size, 8, none⟩ = some (.int .i64 a0x8) ∧ w'.cell? ⟨w.heap.size, 9, none⟩ = some (.int .i64 a0x9) ∧ w'.cell? ⟨w.heap.size + 1, 0, none⟩ = some (.int .i64 a1x0) ∧ w'.cell? ⟨w.heap.size + 1, 1, none⟩ = some (.int .i64 a1x1) ∧ w'.cell? ⟨w.heap.size + 1, 2, none⟩ = some (.int .i64 a1x2) ∧ w'.cell? ⟨w.heap.size + 1, 3, none⟩ = some (.int .i64 a1x3) ∧ w'.cell? ⟨w.heap.size + 1, 4, none⟩ = some (.int .i64 a1x4) ∧ w'.cell? ⟨w.heap.size + 1, 5, none⟩ = some (.int .i64 a1x5) ∧ w'.cell? ⟨w.heap.size + 1, 6, none⟩ = some (.int .i64 a1x6) ∧ w'.cell? ⟨w.heap.size + 1 + 1 + os1.length + os2.length, 0, none⟩ = some (.bool b0) ∧ w'.cell? ⟨w.heap.size + 1 + 1 + os1.length + os2.length, 1, none⟩ = some (.bool b1) ∧ w'.cell? ⟨w.heap.size + 1 + 1 + os1.length + os2.length, 2, none⟩ = some (.bool b2) ∧ w'.cell? ⟨w.heap.size + 1 + 1 + os1.length + os2.length, 3, none⟩ = some (.bool b3))
      ((refine ⟨?_, ?_, ?_, ?_, ?_, ?_, ?_, ?_, ?_, ?_, ?_, ?_, ?_, ?_, ?_, ?_, ?_, ?_, ?_, ?_, ?_⟩ <;> first | assumption | (simp; done) | go_simp))
      (first
        | (go_at_call 15; (with_reducible refine (K2 _).mono ?_); rintro e w' ⟨rfl, os3, n3, rfl⟩)
      )
    all_goals
      go_wp2_with (fail)
      go_returns
      exact ⟨rfl, show Bel _ _ from Gar.bel (by repeat (first | exact Gar.refl _ | refine Gar.drewN ?_ _ | refine Gar.drew ?_ | refine Gar.alloc ?_ _ | refine Gar.allocs ?_ _))⟩
end Go.Proofs.Ytlppolaoigbkeaa
