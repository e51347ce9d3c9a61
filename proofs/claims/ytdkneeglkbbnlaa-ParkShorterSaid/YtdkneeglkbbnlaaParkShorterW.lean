/- The walk of the law ParkShorter. -/
import Derived.Test.YtdkneeglkbbnlaaParkA
import Derived.Test.YtdkneeglkbbnlaaParkP
import Derived.Test.YtdkneeglkbbnlaaFlat
namespace Go.Proofs.Ytdkneeglkbbnlaa
open Go.RowKit
set_option linter.unusedVariables false

theorem run_mx2 {P : Program} (ts : Array TypeId) (t : TypeId) (k k1 : IntKind) (x y : Int) (w : World) : (Builtin.max_ ts t #[.int k x, .int k1 y]).run P w = .ok (.int k (mx x y)) w := by
  simp [Builtin.max_, Builtin.max2, mx]

set_option maxHeartbeats 400000 in
theorem parkShorter_walk (a0 : Int) (a1 : Int) (a2 : Int) (w : World) (w0 : (Lit.int .i64 a0).wf = true) (w1 : (Lit.int .i64 a1).wf = true) (w2 : (Lit.int .i64 a2).wf = true) :
    Calls Try.prog 5 #[.int .i64 a0, .int .i64 a1, .int .i64 a2] w fun e w' => e = .returned (.bool true) ∧ Below w.heap.size w w' := by
  have hb := Bel.refl w
  have bX := clp_bd a0 (-1073741824) 1073741824 (by omega)
  obtain ⟨X, hX⟩ : ∃ X, clp a0 (-1073741824) 1073741824 = X := ⟨_, rfl⟩
  rw [hX] at bX
  have bY := clp_bd a1 (-1073741824) 1073741824 (by omega)
  obtain ⟨Y, hY⟩ : ∃ Y, clp a1 (-1073741824) 1073741824 = Y := ⟨_, rfl⟩
  rw [hY] at bY
  have h1 : prkB X Y = true := prkB_mk (by omega)
  have l := turn_le X Y a2
  have ax := ab_bd X
  have ay := ab_bd Y
  have l1 : ab X ≤ 1073741824 := by unfold ab; omega
  have l2 : ab Y ≤ 1073741824 := by unfold ab; omega
  have m1 := mx4_le (x := tu X Y a2) (y := -tu X Y a2) (z := tv X Y a2) (u := -tv X Y a2) (m := 2147483648) (by omega) (by omega) (by omega) (by omega)
  have s1 := turn_short X Y a2
  have ex : ab X = mx X (-X) := by unfold ab mx; rfl
  have ey : ab Y = mx Y (-Y) := by unfold ab mx; rfl
  have s2 := shorter X Y a2
  rw [ex, ey] at s2
  clear ex ey
  have g1 : 0 ≤ mx X (-X) ∧ mx X (-X) ≤ 1073741824 := by unfold mx; omega
  have g2 : 0 ≤ mx Y (-Y) ∧ mx Y (-Y) ≤ 1073741824 := by unfold mx; omega
  have hm1 := fun (ts : Array TypeId) (t : TypeId) (w : World) => run_mx2 (P := Try.prog) ts t .i64 .i64 X (-X) w
  have hm2 := fun (ts : Array TypeId) (t : TypeId) (w : World) => run_mx2 (P := Try.prog) ts t .i64 .i64 Y (-Y) w
  have q1 := prod_bd2 (x := X) (y := X) (m := 1073741824) (n := 1073741824) (by omega) (by omega)
  have q2 := prod_bd2 (x := Y) (y := Y) (m := 1073741824) (n := 1073741824) (by omega) (by omega)
  have q3 := sq_nn X
  have q4 := sq_nn Y
  have q5 := sq_nn (tu X Y a2)
  have q6 := sq_nn (tv X Y a2)
  go_enter Try.func5, Try.ntmps5
  go_wp2_with (first | (go_at_call 11; (with_reducible refine (awake_true _ _ (by assumption)).mono ?_); rintro e w' ⟨rfl, hb⟩) | (go_at_call 17; (with_reducible refine (clip_any _ _ _ _).mono ?_); rintro e w' ⟨rfl, rfl⟩) | (go_at_call 12; (with_reducible refine (turn_in _ _ _ (by assumption) _ _ (by assumption)).mono ?_); rintro e w' ⟨rfl, hb⟩))
  go_returns
  exact ⟨rfl, (show Bel _ _ from by assumption)⟩
end Go.Proofs.Ytdkneeglkbbnlaa
