/- The walk of the law ArctanCompares. -/
import Derived.Test.YtlefnahclgccbaaRcm
import Derived.Test.YtlefnahclgccbaaAtnA
import Derived.Test.YtlefnahclgccbaaFlat
import Derived.Deep.RegionHeld3
import Derived.Deep.DrawnRows
namespace Go.Proofs.Ytlefnahclgccbaa
open Go.RowKit
set_option linter.unusedVariables false
attribute [local go_sem ↓] Go.wp_at_zero Go.wp_at_succ

set_option maxHeartbeats 4000000 in
theorem arctanCompares_walk (a0x0 a0x1 : Int) (a1x0 a1x1 : Int) (w : World) (w0x0 : (Lit.int .i64 a0x0).wf = true) (w0x1 : (Lit.int .i64 a0x1).wf = true) (w1x0 : (Lit.int .i64 a1x0).wf = true) (w1x1 : (Lit.int .i64 a1x1).wf = true) :
    Calls Try.prog 4 #[.agg #[.int .i64 a0x0, .int .i64 a0x1], .agg #[.int .i64 a1x0, .int .i64 a1x1]] w fun e w' => e = .returned (.bool true) ∧ Below w.heap.size w w' := by
  have C1 := compare_any a0x0 a0x1 a1x0 a1x1 w0x0 w0x1 w1x0 w1x1
  have C2 := rcompare_any a0x0 a0x1 a1x0 a1x1 w0x0 w0x1 w1x0 w1x1
  clear w0x0 w0x1 w1x0 w1x1
  go_enter Try.func4, Try.ntmps4
  go_wp2_with (fail)
  have hb0 := Bel.refl ((w.alloc (.cells #[.int .i64 a0x0, .int .i64 a0x1] 26)).alloc (.cells #[.int .i64 a1x0, .int .i64 a1x1] 26))
  go_region_held3 (fun w' => Bel ((w.alloc (.cells #[.int .i64 a0x0, .int .i64 a0x1] 26)).alloc (.cells #[.int .i64 a1x0, .int .i64 a1x1] 26)) w' ∧ w'.cell? ⟨w.heap.size, 0, none⟩ = some (.int .i64 a0x0) ∧ w'.cell? ⟨w.heap.size, 1, none⟩ = some (.int .i64 a0x1) ∧ w'.cell? ⟨w.heap.size + 1, 0, none⟩ = some (.int .i64 a1x0) ∧ w'.cell? ⟨w.heap.size + 1, 1, none⟩ = some (.int .i64 a1x1))
    ((go_split_ands; refine ⟨?_, ?_, ?_, ?_, ?_⟩ <;> first | assumption | exact Bel.drew (Bel.refl _) | (refine Bel.trans ?_ hbx; assumption) | (refine bel_cell hbx ?_; assumption) | (simp; done)))
    (first
      | (go_at_call 12; (with_reducible refine (awake_true _ _ (Bel.refl _)).mono ?_); rintro e w' ⟨rfl, hbx⟩)
      | (go_at_call 15; (with_reducible refine (C1 _).mono ?_); rintro e w' ⟨rfl, rfl⟩)
      | (go_at_call 16; (with_reducible refine (C2 _ _ (Bel.refl _)).mono ?_); rintro e w' ⟨rfl, hbx⟩))
  all_goals
    rename_i hH
    have hz := (((Bel.refl w).alloc _).alloc _).trans hH.1
    clear hH hb0
    go_wp2_with (fail)
    go_returns
    exact ⟨rfl, hz⟩
end Go.Proofs.Ytlefnahclgccbaa
