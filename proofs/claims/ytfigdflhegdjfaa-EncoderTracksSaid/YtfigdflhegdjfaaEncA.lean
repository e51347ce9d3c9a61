/- awake of chapter 32; equal signals and states. -/
import Derived.Test.YtfigdflhegdjfaaEncQ
import Derived.Test.YtfigdflhegdjfaaEncP
import Derived.Test.YtfigdflhegdjfaaMrg
import Derived.Test.YtfigdflhegdjfaaLtt
import Derived.Deep.RegionWith
import Derived.Deep.RegionHeld3
import Derived.Laws.StructEq
namespace Go.Proofs.Ytfigdflhegdjfaa
open Go.RowKit
set_option linter.unusedVariables false

@[go_sem] theorem eq_sig (a b c : Bool) (w : World) : (Op.equalIn 10000 34 (.agg #[.bool a, .bool b, .bool c]) (.agg #[.bool a, .bool b, .bool c])).run Try.prog w = .ok true w := by
  have u4 := Try.underlying4
  have a4 := Try.isAgg4
  have z4 := Try.sizeOf4
  have hS : Try.prog.underlying 34 = some (.struct (Try.prog.fieldsOf 34)) := by kernel_rfl
  have hp : Try.prog.stoodInHeld 34 = false := by kernel_rfl
  rw [show (10000 : Nat) = 9999 + 1 from rfl, run_equalIn_agg w 9999 34 _ _ hS hp]
  simp only [Program.fieldsOf, Try.underlying34]
  go_simp
@[go_sem] theorem eq_state (a b c d : Int) (k h s : Bool) (w : World) : (Op.equalIn 10000 32 (.agg #[.int .i64 a, .int .i64 b, .int .i64 c, .int .i64 d, .bool k, .bool h, .bool s]) (.agg #[.int .i64 a, .int .i64 b, .int .i64 c, .int .i64 d, .bool k, .bool h, .bool s])).run Try.prog w = .ok true w := by
  have u4 := Try.underlying4
  have a4 := Try.isAgg4
  have z4 := Try.sizeOf4
  have u3 := Try.underlying3
  have a3 := Try.isAgg3
  have z3 := Try.sizeOf3
  have hS : Try.prog.underlying 32 = some (.struct (Try.prog.fieldsOf 32)) := by kernel_rfl
  have hp : Try.prog.stoodInHeld 32 = false := by kernel_rfl
  rw [show (10000 : Nat) = 9999 + 1 from rfl, run_equalIn_agg w 9999 32 _ _ hS hp]
  simp only [Program.fieldsOf, Try.underlying32]
  go_simp

set_option maxHeartbeats 1000000 in
theorem awake_true (w0 w : World) (hb : Gar w0 w) : Calls Try.prog 10 #[] w fun e w' => e = .returned (.bool true) ∧ Gar w0 w' := by
  refine on_gar hb ?_
  clear hb w0
  have cs := fun w => Signals_ok 16 2 4096 (by decide) w w (Gar.refl _)
  rw [show sgA (cnt 16 4096) = true from by decide, show sgB (cnt 16 4096) = false from by decide, show sgZ (cnt 16 4096) (16 * 2) = false from by decide] at cs
  have st := fun w => step_ok 16 2 0 0 0 0 false false true true false false (by decide) (by decide) w w (Gar.refl _)
  rw [show phs true false = 1 from by decide, show stC (16 * 2) 0 0 false false true true false false = 1 from by decide, show stE 0 0 true true false = 0 from by decide, show stS (16 * 2) 0 0 0 false false true true false false = 0 from by decide, show stK false false true false = false from by decide] at st
  go_enter Try.func10, Try.ntmps10
  go_wp2_with (first | (go_at_call 27; (with_reducible refine (example_any _).mono ?_); rintro e w1 ⟨rfl, rfl⟩) | (go_at_call 17; (with_reducible refine (cs _).mono ?_); rintro e w2 ⟨rfl, os, n, rfl⟩))
  go_region_held3 (fun w' => w'.cell? ⟨w.heap.size + 1 + os.length, 0, none⟩ = some (.bool true) ∧ w'.cell? ⟨w.heap.size + 1 + os.length, 1, none⟩ = some (.bool false) ∧ w'.cell? ⟨w.heap.size + 1 + os.length, 2, none⟩ = some (.bool false))
    ((refine ⟨?_, ?_, ?_⟩ <;> first | assumption | (simp; done) | go_simp))
    (first | (go_at_call 27; (with_reducible refine (example_any _).mono ?_); rintro e w1 ⟨rfl, rfl⟩) | (go_at_call 15; (with_reducible refine (st _).mono ?_); rintro e w2 ⟨rfl, os, n, rfl⟩))
  all_goals
    go_wp2_with (fail)
    go_returns
    exact ⟨rfl, by repeat (first | exact Gar.refl _ | refine Gar.drewN ?_ _ | refine Gar.drew ?_ | refine Gar.alloc ?_ _ | refine Gar.allocs ?_ _)⟩
end Go.Proofs.Ytfigdflhegdjfaa
