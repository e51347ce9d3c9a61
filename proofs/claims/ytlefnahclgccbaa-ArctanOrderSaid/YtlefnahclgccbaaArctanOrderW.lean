/- The walk of the law ArctanOrder. -/
import Derived.Test.YtlefnahclgccbaaRcm
import Derived.Test.YtlefnahclgccbaaAtnA
import Derived.Test.YtlefnahclgccbaaFlat
import Derived.Deep.RegionHeld3
import Derived.Deep.DrawnRows
namespace Go.Proofs.Ytlefnahclgccbaa
open Go.RowKit
set_option linter.unusedVariables false
attribute [local go_sem ↓] Go.wp_at_zero Go.wp_at_succ

set_option maxHeartbeats 1000000 in
theorem arctanOrder_walk (a0x0 a0x1 : Int) (a1x0 a1x1 : Int) (w : World) (w0x0 : (Lit.int .i64 a0x0).wf = true) (w0x1 : (Lit.int .i64 a0x1).wf = true) (w1x0 : (Lit.int .i64 a1x0).wf = true) (w1x1 : (Lit.int .i64 a1x1).wf = true) :
    Calls Try.prog 7 #[.agg #[.int .i64 a0x0, .int .i64 a0x1], .agg #[.int .i64 a1x0, .int .i64 a1x1]] w fun e w' => e = .returned (.bool true) ∧ Below w.heap.size w w' := by
  have C1 := compare_any a0x0 a0x1 a1x0 a1x1 w0x0 w0x1 w1x0 w1x1
  have C2 := compare_any a1x0 a1x1 a0x0 a0x1 w1x0 w1x1 w0x0 w0x1
  have C3 := compare_any a0x0 a0x1 a0x0 a0x1 w0x0 w0x1 w0x0 w0x1
  have A1 := angle_any a0x0 a0x1 w0x0 w0x1
  have A2 := angle_any a1x0 a1x1 w1x0 w1x1
  have p1 := cmpV_anti a1x0 a1x1 a0x0 a0x1
  have p2 := cmpV_bd a0x0 a0x1 a1x0 a1x1
  have p3 := angle_order a0x0 a0x1 a1x0 a1x1
  have p4 := angle_ge a0x0 a0x1 a1x0 a1x1
  rw [cmpV_self] at C3
  rw [p1] at C2
  clear w0x0 w0x1 w1x0 w1x1 p1
  generalize cmpV a0x0 a0x1 a1x0 a1x1 = n at *
  generalize angle a0x0 a0x1 = x at *
  generalize angle a1x0 a1x1 = y at *
  have hall : (n = -1 ∧ x ≤ y) ∨ (n = 0 ∧ x = y) ∨ (n = 1 ∧ y ≤ x) := by omega
  clear p2 p3 p4
  rcases hall with ⟨rfl, h⟩ | ⟨rfl, rfl⟩ | ⟨rfl, h⟩
  all_goals
    go_enter Try.func7, Try.ntmps7
    go_wp2_with (go_at_call 12; (with_reducible refine (awake_true _ _ (Bel.refl _)).mono ?_); rintro e w1 ⟨rfl, hb1⟩)
    have hz := (((Bel.refl w).alloc _).alloc _).trans hb1
    have c0 : w1.cell? ⟨w.heap.size, 0, none⟩ = some (.int .i64 a0x0) := bel_cell hb1 (by go_simp)
    have c1 : w1.cell? ⟨w.heap.size, 1, none⟩ = some (.int .i64 a0x1) := bel_cell hb1 (by go_simp)
    have c2 : w1.cell? ⟨w.heap.size + 1, 0, none⟩ = some (.int .i64 a1x0) := bel_cell hb1 (by go_simp)
    have c3 : w1.cell? ⟨w.heap.size + 1, 1, none⟩ = some (.int .i64 a1x1) := bel_cell hb1 (by go_simp)
    clear hb1
    go_quiet ((go_at_call 15; (first | with_reducible exact quiet_eq (C1 _) | with_reducible exact quiet_eq (C2 _))))
    go_wp2_with (fail)
    go_region_held3 (fun w' => Bel w w' ∧ w'.cell? ⟨w.heap.size, 0, none⟩ = some (.int .i64 a0x0) ∧ w'.cell? ⟨w.heap.size, 1, none⟩ = some (.int .i64 a0x1) ∧ w'.cell? ⟨w.heap.size + 1, 0, none⟩ = some (.int .i64 a1x0) ∧ w'.cell? ⟨w.heap.size + 1, 1, none⟩ = some (.int .i64 a1x1))
      ((go_split_ands; refine ⟨?_, ?_, ?_, ?_, ?_⟩ <;> first | assumption | (refine Bel.drew (Bel.drewN ?_ _); assumption) | (refine Bel.drew ?_; assumption) | (refine Bel.drewN ?_ _; assumption) | (refine Bel.trans ?_ hbx; assumption) | (refine bel_cell hbx ?_; assumption) | (simp; done) | (simp; assumption)))
      (first
        | (go_at_call 13; (first | (with_reducible refine (A1 _ _ (Bel.refl _)).mono ?_) | (with_reducible refine (A2 _ _ (Bel.refl _)).mono ?_)); rintro e w' ⟨rfl, hbx⟩))
    all_goals
      rename_i hH
      obtain ⟨hz2, d0, d1, d2, d3⟩ := hH
      clear c0 c1 c2 c3 hz
      go_wp2_with (go_at_call 15; (with_reducible refine (C3 _).mono ?_); rintro e w' ⟨rfl, rfl⟩)
      go_returns
      exact ⟨rfl, hz2⟩
end Go.Proofs.Ytlefnahclgccbaa
