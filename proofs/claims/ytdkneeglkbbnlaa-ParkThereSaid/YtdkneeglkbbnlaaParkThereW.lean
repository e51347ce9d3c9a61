/- The walk of the law ParkThere. -/
import Derived.Test.YtdkneeglkbbnlaaParkA
import Derived.Test.YtdkneeglkbbnlaaParkP
import Derived.Test.YtdkneeglkbbnlaaFlat
namespace Go.Proofs.Ytdkneeglkbbnlaa
open Go.RowKit
set_option linter.unusedVariables false

theorem run_mx2 {P : Program} (ts : Array TypeId) (t : TypeId) (k k1 : IntKind) (x y : Int) (w : World) : (Builtin.max_ ts t #[.int k x, .int k1 y]).run P w = .ok (.int k (mx x y)) w := by
  simp [Builtin.max_, Builtin.max2, mx]

set_option maxHeartbeats 400000 in
theorem parkThere_walk (a0 : Int) (a1 : Int) (a2 : Int) (w : World) (w0 : (Lit.int .i64 a0).wf = true) (w1 : (Lit.int .i64 a1).wf = true) (w2 : (Lit.int .i64 a2).wf = true) :
    Calls Try.prog 10 #[.int .i64 a0, .int .i64 a1, .int .i64 a2] w fun e w' => e = .returned (.bool true) ∧ Below w.heap.size w w' := by
  have hb := Bel.refl w
  have bX := clp_bd a0 (-549755813888) 549755813888 (by omega)
  obtain ⟨X, hX⟩ : ∃ X, clp a0 (-549755813888) 549755813888 = X := ⟨_, rfl⟩
  rw [hX] at bX
  have bY := clp_bd a1 (-549755813888) 549755813888 (by omega)
  obtain ⟨Y, hY⟩ : ∃ Y, clp a1 (-549755813888) 549755813888 = Y := ⟨_, rfl⟩
  rw [hY] at bY
  have h1 : prkB X Y = true := prkB_mk (by omega)
  have l := turn_le X Y (-nrm a2)
  have ax := ab_bd X
  have ay := ab_bd Y
  have l1 : ab X ≤ 549755813888 := by unfold ab; omega
  have l2 : ab Y ≤ 549755813888 := by unfold ab; omega
  have h2 : prkB (tu X Y (-nrm a2)) (tv X Y (-nrm a2)) = true := prkB_mk (by omega)
  have h3 : losB (mx X (-X) + mx Y (-Y)) = true := losB_mk (by unfold mx; omega)
  have t := there X Y a2 (mx X (-X) + mx Y (-Y)) (by unfold mx ab; omega)
  have l3 := turn_le (tu X Y (-nrm a2)) (tv X Y (-nrm a2)) a2
  have l4 := ab_bd (tu X Y (-nrm a2))
  have l5 := ab_bd (tv X Y (-nrm a2))
  have l6 : ab (tu X Y (-nrm a2)) ≤ 1099511627776 := by unfold ab; omega
  have l7 : ab (tv X Y (-nrm a2)) ≤ 1099511627776 := by unfold ab; omega
  have t2 := mx4_le (m := los (mx X (-X) + mx Y (-Y))) t.1.1 t.1.2 t.2.1 t.2.2
  clear t
  have g1 : 0 ≤ mx X (-X) ∧ mx X (-X) ≤ 549755813888 := by unfold mx; omega
  have g2 : 0 ≤ mx Y (-Y) ∧ mx Y (-Y) ≤ 549755813888 := by unfold mx; omega
  have hm1 := fun (ts : Array TypeId) (t : TypeId) (w : World) => run_mx2 (P := Try.prog) ts t .i64 .i64 X (-X) w
  have hm2 := fun (ts : Array TypeId) (t : TypeId) (w : World) => run_mx2 (P := Try.prog) ts t .i64 .i64 Y (-Y) w
  go_enter Try.func10, Try.ntmps10
  go_wp2_with (first | (go_at_call 11; (with_reducible refine (awake_true _ _ (by assumption)).mono ?_); rintro e w' ⟨rfl, hb⟩) | (go_at_call 17; (with_reducible refine (clip_any _ _ _ _).mono ?_); rintro e w' ⟨rfl, rfl⟩) | (go_at_call 19; (with_reducible refine (park_in _ _ _ (by assumption) _ _ (by assumption)).mono ?_); rintro e w' ⟨rfl, hb⟩) | (go_at_call 20; (with_reducible refine (back_in _ _ _ (by assumption) _ _ (by assumption)).mono ?_); rintro e w' ⟨rfl, hb⟩) | (go_at_call 15; (with_reducible refine (loss_in _ (by assumption) _).mono ?_); rintro e w' ⟨rfl, rfl⟩))
  go_returns
  exact ⟨rfl, (show Bel _ _ from by assumption)⟩
end Go.Proofs.Ytdkneeglkbbnlaa
