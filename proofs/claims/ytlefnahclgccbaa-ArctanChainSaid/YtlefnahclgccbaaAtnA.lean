/- awake of chapter 07: the document's examples; Turn. -/
import Derived.Test.YtlefnahclgccbaaAtnC
namespace Go.Proofs.Ytlefnahclgccbaa
open Go.RowKit

theorem ex_angle {b x y : Int} (h : cone b x y) (h1 : 0 ≤ b ∧ b < 65536) (h2 : farB x y = false) (h3 : ¬(x = 0 ∧ y = 0)) : angle x y = b := by
  rw [angle_near h2 h3]; exact ang_uniq h h1
theorem ex_cone {b x y : Int} (h : (decide (0 ≤ crs (bc b) (bs b) x y) && decide (crs (bc (b + 1)) (bs (b + 1)) x y < 0) && decide (0 < dt (bc b) (bs b) x y)) = true) : cone b x y := by
  simp only [Bool.and_eq_true, decide_eq_true_eq] at h
  exact ⟨h.1.1, h.1.2, h.2⟩
theorem ex1 : angle 1 1 = 8192 := ex_angle (ex_cone (by decide +kernel)) (by omega) (by decide) (by omega)
theorem ex2 : angle 0 5 = 16384 := ex_angle (ex_cone (by decide +kernel)) (by omega) (by decide) (by omega)
theorem ex3 : angle 1 (-1) = 57344 := ex_angle (ex_cone (by decide +kernel)) (by omega) (by decide) (by omega)
theorem ex4 : angle 32767 4 = 1 := ex_angle (ex_cone (by decide +kernel)) (by omega) (by decide) (by omega)
theorem ex5 : cmpV 1 2 2 1 = 1 := by
  obtain ⟨a1, a2⟩ := v_near (x := 1) (y := 2) (by decide) (by omega)
  obtain ⟨b1, b2⟩ := v_near (x := 2) (y := 1) (by decide) (by omega)
  unfold cmpV fq fx fy
  rw [a1, a2, b1, b2]
  decide
theorem wfi {n : Int} (h : -9223372036854775808 ≤ n ∧ n ≤ 9223372036854775807) : (Lit.int .i64 n).wf = true := WalkArith.wf_i64 h

theorem awake_true (w0 w : World) (hb : Bel w0 w) : Calls Try.prog 12 #[] w fun e w' => e = .returned (.bool true) ∧ Bel w0 w' := by
  have e1 := ex1
  have e2 := ex2
  have e3 := ex3
  have e4 := ex4
  have e5 := ex5
  go_enter Try.func12, Try.ntmps12
  go_wp2_with (first | (go_at_call 13; (with_reducible refine (angle_any _ _ (wfi (by omega)) (wfi (by omega)) _ _ (by assumption)).mono ?_); rintro e w' ⟨rfl, hb⟩) | (go_at_call 15; (with_reducible refine (compare_any _ _ _ _ (wfi (by omega)) (wfi (by omega)) (wfi (by omega)) (wfi (by omega)) _).mono ?_); rintro e w' ⟨rfl, rfl⟩))
  go_returns
  exact ⟨rfl, by assumption⟩
end Go.Proofs.Ytlefnahclgccbaa
