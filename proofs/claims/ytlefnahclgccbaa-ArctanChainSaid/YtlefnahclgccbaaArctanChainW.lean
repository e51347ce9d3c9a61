/- The walk of the law ArctanChain. -/
import Derived.Test.YtlefnahclgccbaaRcm
import Derived.Test.YtlefnahclgccbaaAtnA
import Derived.Test.YtlefnahclgccbaaFlat
import Derived.Deep.RegionHeld3
import Derived.Deep.DrawnRows
namespace Go.Proofs.Ytlefnahclgccbaa
open Go.RowKit
set_option linter.unusedVariables false
attribute [local go_sem ↓] Go.wp_at_zero Go.wp_at_succ

set_option maxHeartbeats 1000000 in
theorem arctanChain_walk (a0x0 a0x1 : Int) (a1x0 a1x1 : Int) (a2x0 a2x1 : Int) (w : World) (w0x0 : (Lit.int .i64 a0x0).wf = true) (w0x1 : (Lit.int .i64 a0x1).wf = true) (w1x0 : (Lit.int .i64 a1x0).wf = true) (w1x1 : (Lit.int .i64 a1x1).wf = true) (w2x0 : (Lit.int .i64 a2x0).wf = true) (w2x1 : (Lit.int .i64 a2x1).wf = true) :
    Calls Try.prog 8 #[.agg #[.int .i64 a0x0, .int .i64 a0x1], .agg #[.int .i64 a1x0, .int .i64 a1x1], .agg #[.int .i64 a2x0, .int .i64 a2x1]] w fun e w' => e = .returned (.bool true) ∧ Below w.heap.size w w' := by
  have C1 := compare_any a0x0 a0x1 a1x0 a1x1 w0x0 w0x1 w1x0 w1x1
  have C2 := compare_any a1x0 a1x1 a2x0 a2x1 w1x0 w1x1 w2x0 w2x1
  have C3 := compare_any a0x0 a0x1 a2x0 a2x1 w0x0 w0x1 w2x0 w2x1
  have p1 := cmpV_chain a0x0 a0x1 a1x0 a1x1 a2x0 a2x1
  have p2 := cmpV_bd a0x0 a0x1 a1x0 a1x1
  have p3 := cmpV_bd a1x0 a1x1 a2x0 a2x1
  have p4 := cmpV_bd a0x0 a0x1 a2x0 a2x1
  clear w0x0 w0x1 w1x0 w1x1 w2x0 w2x1
  generalize cmpV a0x0 a0x1 a1x0 a1x1 = x at *
  generalize cmpV a1x0 a1x1 a2x0 a2x1 = y at *
  generalize cmpV a0x0 a0x1 a2x0 a2x1 = z at *
  have hall : (x = -1 ∨ x = 0 ∨ x = 1) ∧ (y = -1 ∨ y = 0 ∨ y = 1) ∧ (z = -1 ∨ z = 0 ∨ z = 1) := by omega
  obtain ⟨hx, hy, hzz⟩ := hall
  have p1 := hide p1
  go_enter Try.func8, Try.ntmps8
  go_wp2_with (go_at_call 12; (with_reducible refine (awake_true _ _ (Bel.refl _)).mono ?_); rintro e w1 ⟨rfl, hb1⟩)
  have hz := ((((Bel.refl w).alloc _).alloc _).alloc _).trans hb1
  have c0 : w1.cell? ⟨w.heap.size, 0, none⟩ = some (.int .i64 a0x0) := bel_cell hb1 (by go_simp)
  have c1 : w1.cell? ⟨w.heap.size, 1, none⟩ = some (.int .i64 a0x1) := bel_cell hb1 (by go_simp)
  have c2 : w1.cell? ⟨w.heap.size + 1, 0, none⟩ = some (.int .i64 a1x0) := bel_cell hb1 (by go_simp)
  have c3 : w1.cell? ⟨w.heap.size + 1, 1, none⟩ = some (.int .i64 a1x1) := bel_cell hb1 (by go_simp)
  have c4 : w1.cell? ⟨w.heap.size + 1 + 1, 0, none⟩ = some (.int .i64 a2x0) := bel_cell hb1 (by go_simp)
  have c5 : w1.cell? ⟨w.heap.size + 1 + 1, 1, none⟩ = some (.int .i64 a2x1) := bel_cell hb1 (by go_simp)
  clear hb1
  go_quiet ((go_at_call 15; (first | with_reducible exact quiet_eq (C1 _) | with_reducible exact quiet_eq (C2 _) | with_reducible exact quiet_eq (C3 _))))
  clear c0 c1 c2 c3 c4 c5
  rcases hx with rfl | rfl | rfl <;> rcases hy with rfl | rfl | rfl <;> rcases hzz with rfl | rfl | rfl
  all_goals
    first
    | (exfalso; have := p1.out; omega)
    | (go_wp2_with (fail)
       go_returns
       exact ⟨rfl, Bel.drewN hz _⟩)
end Go.Proofs.Ytlefnahclgccbaa
