/- The walk of the law ParkParks. -/
import Derived.Test.YtdkneeglkbbnlaaParkA
import Derived.Test.YtdkneeglkbbnlaaParkP
import Derived.Test.YtdkneeglkbbnlaaFlat
namespace Go.Proofs.Ytdkneeglkbbnlaa
open Go.RowKit
set_option linter.unusedVariables false

theorem parkParks_walk (a0 : Int) (a1 : Int) (a2 : Int) (w : World) (w0 : (Lit.int .i64 a0).wf = true) (w1 : (Lit.int .i64 a1).wf = true) (w2 : (Lit.int .i64 a2).wf = true) :
    Calls Try.prog 9 #[.int .i64 a0, .int .i64 a1, .int .i64 a2] w fun e w' => e = .returned (.bool true) ∧ Below w.heap.size w w' := by
  have hb := Bel.refl w
  cases hp : prkB a0 a1
  · go_enter Try.func9, Try.ntmps9
    go_wp2_with (first | (go_at_call 11; (with_reducible refine (awake_true _ _ (by assumption)).mono ?_); rintro e w' ⟨rfl, hb⟩) | (go_at_call 19; (with_reducible refine (park_out _ _ _ (by assumption) _ _ (by assumption)).mono ?_); rintro e w' ⟨rfl, hb⟩) | (go_at_call 21; (with_reducible refine (rpark_out _ _ _ (by assumption) _ _ (by assumption)).mono ?_); rintro e w' ⟨rfl, hb⟩) | (go_at_call 20; (with_reducible refine (back_out _ _ _ (by assumption) _ _ (by assumption)).mono ?_); rintro e w' ⟨rfl, hb⟩) | (go_at_call 22; (with_reducible refine (rback_out _ _ _ (by assumption) _ _ (by assumption)).mono ?_); rintro e w' ⟨rfl, hb⟩) | (go_at_call 14; (with_reducible refine (num_errno _ _).mono ?_); rintro e w' ⟨rfl, rfl⟩))
    go_returns
    exact ⟨rfl, (show Bel _ _ from by assumption)⟩
  · go_enter Try.func9, Try.ntmps9
    go_wp2_with (first | (go_at_call 11; (with_reducible refine (awake_true _ _ (by assumption)).mono ?_); rintro e w' ⟨rfl, hb⟩) | (go_at_call 19; (with_reducible refine (park_in _ _ _ (by assumption) _ _ (by assumption)).mono ?_); rintro e w' ⟨rfl, hb⟩) | (go_at_call 21; (with_reducible refine (rpark_in _ _ _ (by assumption) _ _ (by assumption)).mono ?_); rintro e w' ⟨rfl, hb⟩) | (go_at_call 20; (with_reducible refine (back_in _ _ _ (by assumption) _ _ (by assumption)).mono ?_); rintro e w' ⟨rfl, hb⟩) | (go_at_call 22; (with_reducible refine (rback_in _ _ _ (by assumption) _ _ (by assumption)).mono ?_); rintro e w' ⟨rfl, hb⟩) | (go_at_call 14; (with_reducible refine (num_nil _).mono ?_); rintro e w' ⟨rfl, rfl⟩))
    go_returns
    exact ⟨rfl, (show Bel _ _ from by assumption)⟩
end Go.Proofs.Ytdkneeglkbbnlaa
