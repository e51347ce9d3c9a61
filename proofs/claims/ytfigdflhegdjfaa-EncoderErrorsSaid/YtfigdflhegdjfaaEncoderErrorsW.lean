/- The walk of the law EncoderErrors. -/
import Derived.Test.YtfigdflhegdjfaaEncA
import Derived.Test.YtfigdflhegdjfaaFlat
import Derived.Deep.DrawnRows
namespace Go.Proofs.Ytfigdflhegdjfaa
open Go.RowKit
set_option linter.unusedVariables false
attribute [local go_sem ↓] Go.wp_at_zero Go.wp_at_succ

set_option maxHeartbeats 4000000 in
theorem encoderErrors_walk (a0x0 a0x1 : Int) (a1x0 a1x1 a1x2 a1x3 : Int) (a1x4 a1x5 a1x6 : Bool) (a2x0 a2x1 a2x2 : Bool) (w : World) (w0x0 : (Lit.int .i64 a0x0).wf = true) (w0x1 : (Lit.int .i64 a0x1).wf = true) (w1x0 : (Lit.int .i64 a1x0).wf = true) (w1x1 : (Lit.int .i64 a1x1).wf = true) (w1x2 : (Lit.int .i64 a1x2).wf = true) (w1x3 : (Lit.int .i64 a1x3).wf = true) :
    Calls Try.prog 4 #[.agg #[.int .i64 a0x0, .int .i64 a0x1], .agg #[.int .i64 a1x0, .int .i64 a1x1, .int .i64 a1x2, .int .i64 a1x3, .bool a1x4, .bool a1x5, .bool a1x6], .agg #[.bool a2x0, .bool a2x1, .bool a2x2]] w fun e w' => e = .returned (.bool true) ∧ Below w.heap.size w w' := by
  clear w0x0 w0x1 w1x1 w1x2 w1x3
  obtain ⟨b, h⟩ : ∃ b, chkB a0x0 a0x1 = b := ⟨_, rfl⟩
  cases b
  · clear w1x0
    go_enter Try.func4, Try.ntmps4
    go_wp2_with (first | (go_at_call 10; (with_reducible refine (awake_true _ _ (Gar.refl _)).mono ?_); rintro e w' ⟨rfl, os1, n1, rfl⟩) | (go_at_call 12; (with_reducible refine (check_bad _ _ h _).mono ?_); rintro e w' ⟨rfl, rfl⟩))
    go_returns
    exact ⟨rfl, show Bel _ _ from Gar.bel (by repeat (first | exact Gar.refl _ | refine Gar.drewN ?_ _ | refine Gar.drew ?_ | refine Gar.alloc ?_ _ | refine Gar.allocs ?_ _))⟩
  · obtain ⟨E, hE⟩ : ∃ E, clp a1x2 0 1073741824 = E := ⟨_, rfl⟩
    have bE := clp_bd a1x2 0 1073741824 (by omega)
    have CE := clip_any a1x2 0 1073741824
    rw [hE] at bE CE
    have P1 := fun w => step_ok a0x0 a0x1 a1x0 a1x1 E a1x3 a1x4 a1x5 true a2x0 a2x1 a2x2 h w1x0 w w (Gar.refl _)
    obtain ⟨O, hO⟩ : ∃ O, bits .and .i64 a1x0 3 = O := ⟨_, rfl⟩
    have b2 : a1x0 % 4 = O := by rw [and_3] at hO; exact hO
    have eE : stE a1x0 E true a2x0 a2x1 = E + (if (phs a2x0 a2x1 - O) % 4 = 2 then 1 else 0) := by
      unfold stE stD
      rw [b2]
      have : clp E 0 1099511627776 = E := clp_in bE.1 (by omega)
      rw [this]; simp
    obtain ⟨F, hF⟩ : ∃ F, stE a1x0 E true a2x0 a2x1 = F := ⟨_, rfl⟩
    rw [hF] at P1 eE
    have hc : O = 0 ∨ O = 1 ∨ O = 2 ∨ O = 3 := by omega
    generalize ht : phs a2x0 a2x1 = t0 at P1 eE
    generalize stC (a0x0 * a0x1) a1x0 a1x1 a1x4 a1x5 true a2x0 a2x1 a2x2 = t1 at P1
    generalize stS (a0x0 * a0x1) a1x0 a1x1 a1x3 a1x4 a1x5 true a2x0 a2x1 a2x2 = t3 at P1
    generalize stK a1x4 a1x5 true a2x2 = t4 at P1
    clear w1x0 b2 hE hF
    rcases hc with rfl | rfl | rfl | rfl <;> cases a2x0 <;> cases a2x1
    all_goals
      rw [← ht] at eE
      simp [phs] at eE
      subst eE
      clear ht
      go_enter Try.func4, Try.ntmps4
      go_wp2_with (first | (go_at_call 10; (with_reducible refine (awake_true _ _ (Gar.refl _)).mono ?_); rintro e w' ⟨rfl, os1, n1, rfl⟩) | (go_at_call 12; (with_reducible refine (check_ok _ _ h _).mono ?_); rintro e w' ⟨rfl, rfl⟩) | (go_at_call 14; (with_reducible refine (CE _).mono ?_); rintro e w' ⟨rfl, rfl⟩) | (go_at_call 15; (with_reducible refine (P1 _).mono ?_); rintro e w' ⟨rfl, os2, n2, rfl⟩))
      go_returns
      exact ⟨rfl, show Bel _ _ from Gar.bel (by repeat (first | exact Gar.refl _ | refine Gar.drewN ?_ _ | refine Gar.drew ?_ | refine Gar.alloc ?_ _ | refine Gar.allocs ?_ _))⟩
end Go.Proofs.Ytfigdflhegdjfaa
