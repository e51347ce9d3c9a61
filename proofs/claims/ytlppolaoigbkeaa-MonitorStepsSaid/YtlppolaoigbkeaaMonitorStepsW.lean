/- The walk of the law MonitorSteps. -/
import Derived.Test.YtlppolaoigbkeaaMonA
import Derived.Test.YtlppolaoigbkeaaMonT
import Derived.Test.YtlppolaoigbkeaaFlat
namespace Go.Proofs.Ytlppolaoigbkeaa
open Go.RowKit
set_option linter.unusedVariables false
attribute [local go_sem ↓] Go.wp_at_zero Go.wp_at_succ

@[go_sem] theorem eq_b4n (a b c e : Bool) (w : World) : (Op.equalIn 9999 35 (.agg #[.bool a, .bool b, .bool c, .bool e]) (.agg #[.bool a, .bool b, .bool c, .bool e])).run Try.prog w = .ok true w := eq_b4 9997 a b c e w
@[go_sem] theorem eq_i4n (a b c e : Int) (w : World) : (Op.equalIn 9999 22 (.agg #[.int .i64 a, .int .i64 b, .int .i64 c, .int .i64 e]) (.agg #[.int .i64 a, .int .i64 b, .int .i64 c, .int .i64 e])).run Try.prog w = .ok true w := eq_i4 9997 a b c e w
set_option maxRecDepth 100000 in
set_option maxHeartbeats 8000000 in
theorem monitorSteps_walk (a0x0 a0x1 a0x2 a0x3 a0x4 a0x5 a0x6 a0x7 a0x8 a0x9 : Int) (a1x0 a1x1 a1x2 a1x3 : Int) (a1x4 a1x5 a1x6 a1x7 : Bool) (a2x0 a2x1 a2x2 a2x3 a2x4 a2x5 a2x6 : Int) (w : World) (w0x0 : (Lit.int .i64 a0x0).wf = true) (w0x1 : (Lit.int .i64 a0x1).wf = true) (w0x2 : (Lit.int .i64 a0x2).wf = true) (w0x3 : (Lit.int .i64 a0x3).wf = true) (w0x4 : (Lit.int .i64 a0x4).wf = true) (w0x5 : (Lit.int .i64 a0x5).wf = true) (w0x6 : (Lit.int .i64 a0x6).wf = true) (w0x7 : (Lit.int .i64 a0x7).wf = true) (w0x8 : (Lit.int .i64 a0x8).wf = true) (w0x9 : (Lit.int .i64 a0x9).wf = true) (w1x0 : (Lit.int .i64 a1x0).wf = true) (w1x1 : (Lit.int .i64 a1x1).wf = true) (w1x2 : (Lit.int .i64 a1x2).wf = true) (w1x3 : (Lit.int .i64 a1x3).wf = true) (w2x0 : (Lit.int .i64 a2x0).wf = true) (w2x1 : (Lit.int .i64 a2x1).wf = true) (w2x2 : (Lit.int .i64 a2x2).wf = true) (w2x3 : (Lit.int .i64 a2x3).wf = true) (w2x4 : (Lit.int .i64 a2x4).wf = true) (w2x5 : (Lit.int .i64 a2x5).wf = true) (w2x6 : (Lit.int .i64 a2x6).wf = true) :
    Calls Try.prog 9 #[.agg #[.int .i64 a0x0, .int .i64 a0x1, .int .i64 a0x2, .int .i64 a0x3, .int .i64 a0x4, .int .i64 a0x5, .int .i64 a0x6, .int .i64 a0x7, .int .i64 a0x8, .int .i64 a0x9], .agg #[.int .i64 a1x0, .int .i64 a1x1, .int .i64 a1x2, .int .i64 a1x3, .bool a1x4, .bool a1x5, .bool a1x6, .bool a1x7], .agg #[.int .i64 a2x0, .int .i64 a2x1, .int .i64 a2x2, .int .i64 a2x3, .int .i64 a2x4, .int .i64 a2x5, .int .i64 a2x6]] w fun e w' => e = .returned (.bool true) ∧ Below w.heap.size w w' := by
  clear w0x0 w0x1 w0x2 w0x3 w0x4 w0x5 w0x6 w0x7 w0x8 w0x9
  clear w1x0 w1x1 w1x2 w1x3
  clear w2x0 w2x1 w2x2 w2x3 w2x4 w2x5 w2x6
  obtain ⟨b, h⟩ : ∃ b, chkB a0x0 a0x1 a0x2 a0x3 a0x4 a0x5 a0x6 a0x7 a0x8 a0x9 = b := ⟨_, rfl⟩
  have K0 := fun w => clear_any a1x0 a1x1 a1x2 a1x3 a1x4 a1x5 a1x6 a1x7 w w (Gar.refl _)
  cases b
  · have KR := rcheck_bad a0x0 a0x1 a0x2 a0x3 a0x4 a0x5 a0x6 a0x7 a0x8 a0x9 h
    have K1 := fun w => step_bad a0x0 a0x1 a0x2 a0x3 a0x4 a0x5 a0x6 a0x7 a0x8 a0x9 a1x0 a1x1 a1x2 a1x3 a1x4 a1x5 a1x6 a1x7 a2x0 a2x1 a2x2 a2x3 a2x4 a2x5 a2x6 h w w (Gar.refl _)
    clear h
    go_enter Try.func9, Try.ntmps9
    go_wp2_with (first | (go_at_call 10; (with_reducible refine (awake_true _ _ (Gar.refl _)).mono ?_); rintro e w' ⟨rfl, os1, n1, rfl⟩) | (go_at_call 18; (with_reducible refine (K0 _).mono ?_); rintro e w' ⟨rfl, os4, n4, rfl⟩) | (go_at_call 16; (with_reducible refine (K1 _).mono ?_); rintro e w' ⟨rfl, os2, n2, rfl⟩) | (go_at_call 13; (with_reducible refine (KR _).mono ?_); rintro e w' ⟨rfl, rfl⟩) | (go_at_call 11; (first | (with_reducible refine (num_errno _ _).mono ?_) | (with_reducible refine (num_nil _).mono ?_)); rintro e w' ⟨rfl, rfl⟩))
    go_returns
    exact ⟨rfl, show Bel _ _ from Gar.bel (by repeat (first | exact Gar.refl _ | refine Gar.drewN ?_ _ | refine Gar.drew ?_ | refine Gar.alloc ?_ _ | refine Gar.allocs ?_ _))⟩
  · have KR := rcheck_ok a0x0 a0x1 a0x2 a0x3 a0x4 a0x5 a0x6 a0x7 a0x8 a0x9 h
    have K1 := fun w => step_ok a0x0 a0x1 a0x2 a0x3 a0x4 a0x5 a0x6 a0x7 a0x8 a0x9 a1x0 a1x1 a1x2 a1x3 a1x4 a1x5 a1x6 a1x7 a2x0 a2x1 a2x2 a2x3 a2x4 a2x5 a2x6 h w w (Gar.refl _)
    have K2 := fun w => rstep_ok a0x0 a0x1 a0x2 a0x3 a0x4 a0x5 a0x6 a0x7 a0x8 a0x9 a1x0 a1x1 a1x2 a1x3 a1x4 a1x5 a1x6 a1x7 a2x0 a2x1 a2x2 a2x3 a2x4 a2x5 a2x6 h w w (Gar.refl _)
    clear h
    generalize mF (q0 a0x0 a2x0 a2x1 a2x2) a1x0 a0x6 = v0 at *
    generalize mF (lostB a0x1 a0x2 a2x0 a2x1 a2x2) a1x1 a0x7 = v1 at *
    generalize mF (q2 a0x3 a0x4 a2x3 a2x4) a1x2 a0x8 = v2 at *
    generalize mF (q3 a0x5 a2x5 a2x6) a1x3 a0x9 = v3 at *
    generalize mG (q0 a0x0 a2x0 a2x1 a2x2) a1x4 a1x0 a0x6 = v4 at *
    generalize mG (lostB a0x1 a0x2 a2x0 a2x1 a2x2) a1x5 a1x1 a0x7 = v5 at *
    generalize mG (q2 a0x3 a0x4 a2x3 a2x4) a1x6 a1x2 a0x8 = v6 at *
    generalize mG (q3 a0x5 a2x5 a2x6) a1x7 a1x3 a0x9 = v7 at *
    go_enter Try.func9, Try.ntmps9
    go_wp2_with (first | (go_at_call 10; (with_reducible refine (awake_true _ _ (Gar.refl _)).mono ?_); rintro e w' ⟨rfl, os1, n1, rfl⟩) | (go_at_call 18; (with_reducible refine (K0 _).mono ?_); rintro e w' ⟨rfl, os4, n4, rfl⟩) | (go_at_call 16; (with_reducible refine (K1 _).mono ?_); rintro e w' ⟨rfl, os2, n2, rfl⟩) | (go_at_call 13; (with_reducible refine (KR _).mono ?_); rintro e w' ⟨rfl, rfl⟩) | (go_at_call 11; (first | (with_reducible refine (num_errno _ _).mono ?_) | (with_reducible refine (num_nil _).mono ?_)); rintro e w' ⟨rfl, rfl⟩))
    go_region_held3 (fun w' => w'.cell? ⟨w.heap.size, 0, none⟩ = some (.int .i64 a0x0) ∧ w'.cell? ⟨w.heap.size, 1, none⟩ = some (.int .i64 a0x1) ∧ w'.cell? ⟨w.heap.size, 2, none⟩ = some (.int .i64 a0x2) ∧ w'.cell? ⟨w.heap.size, 3, none⟩ = some (.int .i64 a0x3) ∧ w'.cell? ⟨w.heap.size, 4, none⟩ = some (.int .i64 a0x4) ∧ w'.cell? ⟨w.heap.size, 5, none⟩ = some (.int .i64 a0x5) ∧ w'.cell? ⟨w.heap.size, 6, none⟩ = some (.int .i64 a0x6) ∧ w'.cell? ⟨w.heap.size, 7, none⟩ = some (.int .i64 a0x7) ∧ w'.cell? ⟨w.heap.size, 8, none⟩ = some (.int .i64 a0x8) ∧ w'.cell? ⟨w.heap.size, 9, none⟩ = some (.int .i64 a0x9) ∧ w'.cell? ⟨w.heap.size + 1, 0, none⟩ = some (.int .i64 a1x0) ∧ w'.cell? ⟨w.heap.size + 1, 1, none⟩ = some (.int .i64 a1x1) ∧ w'.cell? ⟨w.heap.size + 1, 2, none⟩ = some (.int .i64 a1x2) ∧ w'.cell? ⟨w.heap.size + 1, 3, none⟩ = some (.int .i64 a1x3) ∧ w'.cell? ⟨w.heap.size + 1, 4, none⟩ = some (.bool a1x4) ∧ w'.cell? ⟨w.heap.size + 1, 5, none⟩ = some (.bool a1x5) ∧ w'.cell? ⟨w.heap.size + 1, 6, none⟩ = some (.bool a1x6) ∧ w'.cell? ⟨w.heap.size + 1, 7, none⟩ = some (.bool a1x7) ∧ w'.cell? ⟨w.heap.size + 1 + 1, 0, none⟩ = some (.int .i64 a2x0) ∧ w'.cell? ⟨w.heap.size + 1 + 1, 1, none⟩ = some (.int .i64 a2x1) ∧ w'.cell? ⟨w.heap.size + 1 + 1, 2, none⟩ = some (.int .i64 a2x2) ∧ w'.cell? ⟨w.heap.size + 1 + 1, 3, none⟩ = some (.int .i64 a2x3) ∧ w'.cell? ⟨w.heap.size + 1 + 1, 4, none⟩ = some (.int .i64 a2x4) ∧ w'.cell? ⟨w.heap.size + 1 + 1, 5, none⟩ = some (.int .i64 a2x5) ∧ w'.cell? ⟨w.heap.size + 1 + 1, 6, none⟩ = some (.int .i64 a2x6) ∧ w'.cell? ⟨w.heap.size + 1 + 1 + 1 + os1.length + os4.length + os2.length, 0, none⟩ = some (.int .i64 v0) ∧ w'.cell? ⟨w.heap.size + 1 + 1 + 1 + os1.length + os4.length + os2.length, 1, none⟩ = some (.int .i64 v1) ∧ w'.cell? ⟨w.heap.size + 1 + 1 + 1 + os1.length + os4.length + os2.length, 2, none⟩ = some (.int .i64 v2) ∧ w'.cell? ⟨w.heap.size + 1 + 1 + 1 + os1.length + os4.length + os2.length, 3, none⟩ = some (.int .i64 v3) ∧ w'.cell? ⟨w.heap.size + 1 + 1 + 1 + os1.length + os4.length + os2.length, 4, none⟩ = some (.bool v4) ∧ w'.cell? ⟨w.heap.size + 1 + 1 + 1 + os1.length + os4.length + os2.length, 5, none⟩ = some (.bool v5) ∧ w'.cell? ⟨w.heap.size + 1 + 1 + 1 + os1.length + os4.length + os2.length, 6, none⟩ = some (.bool v6) ∧ w'.cell? ⟨w.heap.size + 1 + 1 + 1 + os1.length + os4.length + os2.length, 7, none⟩ = some (.bool v7))
      ((refine ⟨?_, ?_, ?_, ?_, ?_, ?_, ?_, ?_, ?_, ?_, ?_, ?_, ?_, ?_, ?_, ?_, ?_, ?_, ?_, ?_, ?_, ?_, ?_, ?_, ?_, ?_, ?_, ?_, ?_, ?_, ?_, ?_, ?_⟩ <;> first | assumption | (simp; done) | go_simp))
      (first
        | (go_at_call 19; (with_reducible refine (K2 _).mono ?_); rintro e w' ⟨rfl, os3, n3, rfl⟩)
      )
    all_goals
      go_wp2_with (fail)
      go_returns
      exact ⟨rfl, show Bel _ _ from Gar.bel (by repeat (first | exact Gar.refl _ | refine Gar.drewN ?_ _ | refine Gar.drew ?_ | refine Gar.alloc ?_ _ | refine Gar.allocs ?_ _))⟩
end Go.Proofs.Ytlppolaoigbkeaa
