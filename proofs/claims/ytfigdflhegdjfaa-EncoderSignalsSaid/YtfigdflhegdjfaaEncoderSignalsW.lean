/- The walk of the law EncoderSignals. -/
import Derived.Test.YtfigdflhegdjfaaEncA
import Derived.Test.YtfigdflhegdjfaaFlat
import Derived.Deep.DrawnRows
namespace Go.Proofs.Ytfigdflhegdjfaa
open Go.RowKit
set_option linter.unusedVariables false
attribute [local go_sem ↓] Go.wp_at_zero Go.wp_at_succ

set_option maxHeartbeats 4000000 in
theorem encoderSignals_walk (a0x0 a0x1 : Int) (a1 : Int) (w : World) (w0x0 : (Lit.int .i64 a0x0).wf = true) (w0x1 : (Lit.int .i64 a0x1).wf = true) (w1 : (Lit.int .i64 a1).wf = true) :
    Calls Try.prog 5 #[.agg #[.int .i64 a0x0, .int .i64 a0x1], .int .i64 a1] w fun e w' => e = .returned (.bool true) ∧ Below w.heap.size w w' := by
  clear w0x0 w0x1 w1
  obtain ⟨b, h⟩ : ∃ b, chkB a0x0 a0x1 = b := ⟨_, rfl⟩
  cases b
  · go_enter Try.func5, Try.ntmps5
    go_wp2_with (first | (go_at_call 10; (with_reducible refine (awake_true _ _ (Gar.refl _)).mono ?_); rintro e w' ⟨rfl, os1, n1, rfl⟩) | (go_at_call 16; (with_reducible refine (Count_bad _ _ _ h _ _ (Gar.refl _)).mono ?_); rintro e w' ⟨rfl, os2, n2, rfl⟩) | (go_at_call 17; (with_reducible refine (Signals_bad _ _ _ h _ _ (Gar.refl _)).mono ?_); rintro e w' ⟨rfl, os3, n3, rfl⟩) | (go_at_call 13; (with_reducible refine (rcheck_bad _ _ h _).mono ?_); rintro e w' ⟨rfl, rfl⟩) | (go_at_call 11; (first | (with_reducible refine (num_errno _ _).mono ?_) | (with_reducible refine (num_nil _).mono ?_)); rintro e w' ⟨rfl, rfl⟩))
    go_returns
    exact ⟨rfl, show Bel _ _ from Gar.bel (by repeat (first | exact Gar.refl _ | refine Gar.drewN ?_ _ | refine Gar.drew ?_ | refine Gar.alloc ?_ _ | refine Gar.allocs ?_ _))⟩
  · obtain ⟨z1, e1⟩ : ∃ b, sgA (cnt a0x0 a1) = b := ⟨_, rfl⟩
    obtain ⟨z2, e2⟩ : ∃ b, sgB (cnt a0x0 a1) = b := ⟨_, rfl⟩
    obtain ⟨z3, e3⟩ : ∃ b, sgZ (cnt a0x0 a1) (a0x0 * a0x1) = b := ⟨_, rfl⟩
    obtain ⟨N, e4⟩ : ∃ b, cnt a0x0 a1 = b := ⟨_, rfl⟩
    have P1 := fun w => Count_ok a0x0 a0x1 a1 h w w (Gar.refl _)
    have P2 := fun w => Signals_ok a0x0 a0x1 a1 h w w (Gar.refl _)
    have P3 := rCount_any a0x0 a0x1 a1 h
    have P4 := fun w => rSignals_ok a0x0 a0x1 a1 h w w (Gar.refl _)
    rw [e4] at P1 P3 e1 e2 e3
    rw [e4, e1, e2, e3] at P2 P4
    clear e1 e2 e3 e4
    go_enter Try.func5, Try.ntmps5
    go_wp2_with (first | (go_at_call 10; (with_reducible refine (awake_true _ _ (Gar.refl _)).mono ?_); rintro e w' ⟨rfl, os1, n1, rfl⟩) | (go_at_call 16; (with_reducible refine (P1 _).mono ?_); rintro e w' ⟨rfl, os2, n2, rfl⟩) | (go_at_call 17; (with_reducible refine (P2 _).mono ?_); rintro e w' ⟨rfl, os3, n3, rfl⟩) | (go_at_call 13; (with_reducible refine (rcheck_ok _ _ h _).mono ?_); rintro e w' ⟨rfl, rfl⟩) | (go_at_call 11; (first | (with_reducible refine (num_errno _ _).mono ?_) | (with_reducible refine (num_nil _).mono ?_)); rintro e w' ⟨rfl, rfl⟩))
    go_region_held3 (fun w' => w'.cell? ⟨w.heap.size, 0, none⟩ = some (.int .i64 a0x0) ∧ w'.cell? ⟨w.heap.size, 1, none⟩ = some (.int .i64 a0x1) ∧ w'.cell? ⟨w.heap.size + 1 + os1.length + os2.length + os3.length, 0, none⟩ = some (.bool z1) ∧ w'.cell? ⟨w.heap.size + 1 + os1.length + os2.length + os3.length, 1, none⟩ = some (.bool z2) ∧ w'.cell? ⟨w.heap.size + 1 + os1.length + os2.length + os3.length, 2, none⟩ = some (.bool z3))
      ((refine ⟨?_, ?_, ?_, ?_, ?_⟩ <;> first | assumption | (simp; done) | go_simp))
      (first
        | (go_at_call 18; (with_reducible refine (P3 _).mono ?_); rintro e w' ⟨rfl, n4, rfl⟩)
        | (go_at_call 19; (with_reducible refine (P4 _).mono ?_); rintro e w' ⟨rfl, os5, n5, rfl⟩)
      )
    all_goals
      go_wp2_with (fail)
      go_returns
      exact ⟨rfl, show Bel _ _ from Gar.bel (by repeat (first | exact Gar.refl _ | refine Gar.drewN ?_ _ | refine Gar.drew ?_ | refine Gar.alloc ?_ _ | refine Gar.allocs ?_ _))⟩
end Go.Proofs.Ytfigdflhegdjfaa
