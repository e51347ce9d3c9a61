/- The walk of the law ParkLoss. -/
import Derived.Test.YtdkneeglkbbnlaaParkA
import Derived.Test.YtdkneeglkbbnlaaParkP
import Derived.Test.YtdkneeglkbbnlaaFlat
namespace Go.Proofs.Ytdkneeglkbbnlaa
open Go.RowKit
set_option linter.unusedVariables false

theorem parkLoss_walk (a0 : Int) (a1 : Int) (w : World) (w0 : (Lit.int .i64 a0).wf = true) (w1 : (Lit.int .u32 a1).wf = true) :
    Calls Try.prog 4 #[.int .i64 a0, .int .u32 a1] w fun e w' => e = .returned (.bool true) ∧ Below w.heap.size w w' := by
  have hb := Bel.refl w
  have bn := bounds_u32 w1
  cases hp : losB a0
  · go_enter Try.func4, Try.ntmps4
    go_wp2_with (first | (go_at_call 11; (with_reducible refine (awake_true _ _ (by assumption)).mono ?_); rintro e w' ⟨rfl, hb⟩) | (go_at_call 15; (with_reducible refine (loss_out _ (by assumption) _).mono ?_); rintro e w' ⟨rfl, rfl⟩) | (go_at_call 16; (with_reducible refine (rloss_out _ (by assumption) _).mono ?_); rintro e w' ⟨rfl, rfl⟩) | (go_at_call 14; (with_reducible refine (num_errno _ _).mono ?_); rintro e w' ⟨rfl, rfl⟩))
    go_returns
    exact ⟨rfl, (show Bel _ _ from by assumption)⟩
  · have hq := losB_in hp
    by_cases h : 1099511627776 < a0 + a1
    · have h2 : losB 1099511627776 = true := losB_mk (by omega)
      have h3 : los a0 ≤ los 1099511627776 := by unfold los; omega
      go_enter Try.func4, Try.ntmps4
      go_wp2_with (first | (go_at_call 11; (with_reducible refine (awake_true _ _ (by assumption)).mono ?_); rintro e w' ⟨rfl, hb⟩) | (go_at_call 15; (with_reducible refine (loss_in _ (by assumption) _).mono ?_); rintro e w' ⟨rfl, rfl⟩) | (go_at_call 16; (with_reducible refine (rloss_in _ (by assumption) _).mono ?_); rintro e w' ⟨rfl, rfl⟩) | (go_at_call 14; (with_reducible refine (num_nil _).mono ?_); rintro e w' ⟨rfl, rfl⟩))
      go_returns
      exact ⟨rfl, (show Bel _ _ from by assumption)⟩
    · have h2 : losB (a0 + a1) = true := losB_mk (by omega)
      have h3 : los a0 ≤ los (a0 + a1) := by unfold los; omega
      go_enter Try.func4, Try.ntmps4
      go_wp2_with (first | (go_at_call 11; (with_reducible refine (awake_true _ _ (by assumption)).mono ?_); rintro e w' ⟨rfl, hb⟩) | (go_at_call 15; (with_reducible refine (loss_in _ (by assumption) _).mono ?_); rintro e w' ⟨rfl, rfl⟩) | (go_at_call 16; (with_reducible refine (rloss_in _ (by assumption) _).mono ?_); rintro e w' ⟨rfl, rfl⟩) | (go_at_call 14; (with_reducible refine (num_nil _).mono ?_); rintro e w' ⟨rfl, rfl⟩))
      go_returns
      exact ⟨rfl, (show Bel _ _ from by assumption)⟩
end Go.Proofs.Ytdkneeglkbbnlaa
