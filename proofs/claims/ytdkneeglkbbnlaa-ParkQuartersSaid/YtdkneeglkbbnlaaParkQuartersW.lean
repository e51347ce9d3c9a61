/- The walk of the law ParkQuarters. -/
import Derived.Test.YtdkneeglkbbnlaaParkA
import Derived.Test.YtdkneeglkbbnlaaParkP
import Derived.Test.YtdkneeglkbbnlaaFlat
namespace Go.Proofs.Ytdkneeglkbbnlaa
open Go.RowKit
set_option linter.unusedVariables false

set_option maxHeartbeats 400000 in
theorem parkQuarters_walk (a0 : Int) (a1 : Int) (a2 : Int) (w : World) (w0 : (Lit.int .i64 a0).wf = true) (w1 : (Lit.int .i64 a1).wf = true) (w2 : (Lit.int .i64 a2).wf = true) :
    Calls Try.prog 6 #[.int .i64 a0, .int .i64 a1, .int .i64 a2] w fun e w' => e = .returned (.bool true) ∧ Below w.heap.size w w' := by
  have hb := Bel.refl w
  have bX := clp_bd a0 (-1099511627776) 1099511627776 (by omega)
  obtain ⟨X, hX⟩ : ∃ X, clp a0 (-1099511627776) 1099511627776 = X := ⟨_, rfl⟩
  rw [hX] at bX
  have bY := clp_bd a1 (-1099511627776) 1099511627776 (by omega)
  obtain ⟨Y, hY⟩ : ∃ Y, clp a1 (-1099511627776) 1099511627776 = Y := ⟨_, rfl⟩
  rw [hY] at bY
  have h1 : prkB X Y = true := prkB_mk (by omega)
  have h2 : prkB (-Y) X = true := prkB_mk (by omega)
  have h3 : prkB (-X) (-Y) = true := prkB_mk (by omega)
  have bn := nrm_bd a2
  obtain ⟨⟨e1, e2⟩, ⟨e3, e4⟩, ⟨e5, e6⟩, e7, e8⟩ := quarters X Y (nrm a2)
  have l := turn_le X Y (nrm a2)
  have ax := ab_bd X
  have ay := ab_bd Y
  have l1 : ab X ≤ 1099511627776 := by unfold ab; omega
  have l2 : ab Y ≤ 1099511627776 := by unfold ab; omega
  go_enter Try.func6, Try.ntmps6
  go_wp2_with (first | (go_at_call 11; (with_reducible refine (awake_true _ _ (by assumption)).mono ?_); rintro e w' ⟨rfl, hb⟩) | (go_at_call 17; (with_reducible refine (clip_any _ _ _ _).mono ?_); rintro e w' ⟨rfl, rfl⟩) | (go_at_call 18; (with_reducible refine (rnorm_any _ _).mono ?_); rintro e w' ⟨rfl, rfl⟩) | (go_at_call 12; (with_reducible refine (turn_in _ _ _ (by assumption) _ _ (by assumption)).mono ?_); rintro e w' ⟨rfl, hb⟩))
  go_returns
  exact ⟨rfl, (show Bel _ _ from by assumption)⟩
end Go.Proofs.Ytdkneeglkbbnlaa
