/- The walk of the law MonitorOrder. -/
import Derived.Test.YtlppolaoigbkeaaMonA
import Derived.Test.YtlppolaoigbkeaaFlat
import Derived.Test.YtlppolaoigbkeaaMonH
namespace Go.Proofs.Ytlppolaoigbkeaa
open Go.RowKit
set_option linter.unusedVariables false
attribute [local go_sem ↓] Go.wp_at_zero Go.wp_at_succ

set_option maxRecDepth 100000 in
set_option maxHeartbeats 8000000 in
theorem monitorOrder_walk (a0x0 a0x1 a0x2 a0x3 a0x4 a0x5 a0x6 a0x7 a0x8 a0x9 : Int) (a1x0 a1x1 a1x2 a1x3 a1x4 a1x5 a1x6 : Int) (w : World) (w0x0 : (Lit.int .i64 a0x0).wf = true) (w0x1 : (Lit.int .i64 a0x1).wf = true) (w0x2 : (Lit.int .i64 a0x2).wf = true) (w0x3 : (Lit.int .i64 a0x3).wf = true) (w0x4 : (Lit.int .i64 a0x4).wf = true) (w0x5 : (Lit.int .i64 a0x5).wf = true) (w0x6 : (Lit.int .i64 a0x6).wf = true) (w0x7 : (Lit.int .i64 a0x7).wf = true) (w0x8 : (Lit.int .i64 a0x8).wf = true) (w0x9 : (Lit.int .i64 a0x9).wf = true) (w1x0 : (Lit.int .i64 a1x0).wf = true) (w1x1 : (Lit.int .i64 a1x1).wf = true) (w1x2 : (Lit.int .i64 a1x2).wf = true) (w1x3 : (Lit.int .i64 a1x3).wf = true) (w1x4 : (Lit.int .i64 a1x4).wf = true) (w1x5 : (Lit.int .i64 a1x5).wf = true) (w1x6 : (Lit.int .i64 a1x6).wf = true) :
    Calls Try.prog 8 #[.agg #[.int .i64 a0x0, .int .i64 a0x1, .int .i64 a0x2, .int .i64 a0x3, .int .i64 a0x4, .int .i64 a0x5, .int .i64 a0x6, .int .i64 a0x7, .int .i64 a0x8, .int .i64 a0x9], .agg #[.int .i64 a1x0, .int .i64 a1x1, .int .i64 a1x2, .int .i64 a1x3, .int .i64 a1x4, .int .i64 a1x5, .int .i64 a1x6]] w fun e w' => e = .returned (.bool true) ∧ Below w.heap.size w w' := by
  clear w0x0 w0x1 w0x2 w0x3 w0x4 w0x5 w0x6 w0x7 w0x8 w0x9
  clear w1x0 w1x1 w1x2 w1x3 w1x4 w1x5 w1x6
  obtain ⟨b, h⟩ : ∃ b, chkB a0x0 a0x1 a0x2 a0x3 a0x4 a0x5 a0x6 a0x7 a0x8 a0x9 = b := ⟨_, rfl⟩
  cases b
  · have KC := check_bad a0x0 a0x1 a0x2 a0x3 a0x4 a0x5 a0x6 a0x7 a0x8 a0x9 h
    clear h
    go_enter Try.func8, Try.ntmps8
    go_wp2_with (first | (go_at_call 10; (with_reducible refine (awake_true _ _ (Gar.refl _)).mono ?_); rintro e w' ⟨rfl, os1, n1, rfl⟩) | (go_at_call 12; (with_reducible refine (KC _).mono ?_); rintro e w' ⟨rfl, rfl⟩))
    go_returns
    exact ⟨rfl, show Bel _ _ from Gar.bel (by repeat (first | exact Gar.refl _ | refine Gar.drewN ?_ _ | refine Gar.drew ?_ | refine Gar.alloc ?_ _ | refine Gar.allocs ?_ _))⟩
  · have KC := check_ok a0x0 a0x1 a0x2 a0x3 a0x4 a0x5 a0x6 a0x7 a0x8 a0x9 h
    have CX0 := clip_any a1x0 (-2097152) 2097152
    have bX0 := clp_bd a1x0 (-2097152) 2097152 (by omega)
    generalize clp a1x0 (-2097152) 2097152 = X0 at *
    have CX1 := clip_any a1x1 (-2097152) 2097152
    have bX1 := clp_bd a1x1 (-2097152) 2097152 (by omega)
    generalize clp a1x1 (-2097152) 2097152 = X1 at *
    have CX2 := clip_any a1x2 (-2097152) 2097152
    have bX2 := clp_bd a1x2 (-2097152) 2097152 (by omega)
    generalize clp a1x2 (-2097152) 2097152 = X2 at *
    have CX3 := clip_any a1x3 (-1073741824) 1073741824
    have bX3 := clp_bd a1x3 (-1073741824) 1073741824 (by omega)
    generalize clp a1x3 (-1073741824) 1073741824 = X3 at *
    have CX4 := clip_any a1x4 (-16777216) 16777216
    have bX4 := clp_bd a1x4 (-16777216) 16777216 (by omega)
    generalize clp a1x4 (-16777216) 16777216 = X4 at *
    have K1 := fun w => cond_ok a0x0 a0x1 a0x2 a0x3 a0x4 a0x5 a0x6 a0x7 a0x8 a0x9 X0 X1 X2 X3 X4 a1x5 a1x6 h w w (Gar.refl _)
    have K2 := fun w => cond_ok a0x0 a0x1 a0x2 a0x3 a0x4 a0x5 a0x6 a0x7 a0x8 a0x9 (-X2) (-X0) (-X1) (-X3) (-X4) a1x6 a1x5 h w w (Gar.refl _)
    rw [ord_0, ord_1, ord_2, ord_3] at K2
    clear h
    generalize q0 a0x0 X0 X1 X2 = b0 at *
    generalize lostB a0x1 a0x2 X0 X1 X2 = b1 at *
    generalize q2 a0x3 a0x4 X3 X4 = b2 at *
    generalize q3 a0x5 a1x5 a1x6 = b3 at *
    go_enter Try.func8, Try.ntmps8
    go_wp2_with (first | (go_at_call 10; (with_reducible refine (awake_true _ _ (Gar.refl _)).mono ?_); rintro e w' ⟨rfl, os1, n1, rfl⟩) | (go_at_call 12; (with_reducible refine (KC _).mono ?_); rintro e w' ⟨rfl, rfl⟩) | (go_at_call 17; (first | (with_reducible refine (CX0 _).mono ?_) | (with_reducible refine (CX1 _).mono ?_) | (with_reducible refine (CX2 _).mono ?_)); rintro e w' ⟨rfl, rfl⟩))
    refine wp_loop_rounds 4 ?_
    repeat any_goals (rw [rounds_succ]; go_wp2_with (first | (go_at_call 17; (first | (with_reducible refine (CX0 _).mono ?_) | (with_reducible refine (CX1 _).mono ?_) | (with_reducible refine (CX2 _).mono ?_)); rintro e w' ⟨rfl, rfl⟩)))
    apply merge
    · intro hx
      go_region_with (first | (go_at_call 17; (first | (with_reducible refine (CX3 _).mono ?_) | (with_reducible refine (CX4 _).mono ?_)); rintro e w' ⟨rfl, rfl⟩))
      all_goals with_reducible exact hx.out
    go_wp2_with (first | (go_at_call 14; (first | (with_reducible refine (K1 _).mono ?_) | (with_reducible refine (K2 _).mono ?_)); rintro e w' ⟨rfl, os2, n2, rfl⟩))
    go_returns
    exact ⟨rfl, show Bel _ _ from Gar.bel (by repeat (first | exact Gar.refl _ | refine Gar.drewN ?_ _ | refine Gar.drew ?_ | refine Gar.alloc ?_ _ | refine Gar.allocs ?_ _))⟩
end Go.Proofs.Ytlppolaoigbkeaa
