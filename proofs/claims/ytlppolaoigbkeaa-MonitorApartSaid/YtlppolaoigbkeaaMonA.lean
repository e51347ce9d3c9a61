/- awake of chapter 46; equal conditions and states. -/
import Derived.Test.YtlppolaoigbkeaaMonS
import Derived.Test.YtlppolaoigbkeaaMrg
import Derived.Test.YtlppolaoigbkeaaLtt
import Derived.Deep.RegionWith
import Derived.Deep.RegionHeld3
import Derived.Deep.DrawnRows
import Derived.Laws.StructEq
namespace Go.Proofs.Ytlppolaoigbkeaa
open Go.RowKit
set_option linter.unusedVariables false
attribute [local go_sem ↓] Go.wp_at_zero Go.wp_at_succ

theorem eq_b4 (d : Nat) (a b c e : Bool) (w : World) : (Op.equalIn (d + 2) 35 (.agg #[.bool a, .bool b, .bool c, .bool e]) (.agg #[.bool a, .bool b, .bool c, .bool e])).run Try.prog w = .ok true w := by
  have u3 := Try.underlying4
  have a3 := Try.isAgg4
  have z3 := Try.sizeOf4
  rw [Op.equalIn]
  simp only [Sem.run_bind, run_underlying Try.underlying35, Result.andThen_ok]
  simp only [Std.Legacy.Range.forIn_eq_forIn_range', Std.Legacy.Range.size, Nat.sub_zero, Nat.add_sub_cancel, Nat.div_one, List.range'_succ, List.range'_zero, List.forIn_cons, List.forIn_nil]
  go_simp
theorem eq_i4 (d : Nat) (a b c e : Int) (w : World) : (Op.equalIn (d + 2) 22 (.agg #[.int .i64 a, .int .i64 b, .int .i64 c, .int .i64 e]) (.agg #[.int .i64 a, .int .i64 b, .int .i64 c, .int .i64 e])).run Try.prog w = .ok true w := by
  have u3 := Try.underlying3
  have a3 := Try.isAgg3
  have z3 := Try.sizeOf3
  rw [Op.equalIn]
  simp only [Sem.run_bind, run_underlying Try.underlying22, Result.andThen_ok]
  simp only [Std.Legacy.Range.forIn_eq_forIn_range', Std.Legacy.Range.size, Nat.sub_zero, Nat.add_sub_cancel, Nat.div_one, List.range'_succ, List.range'_zero, List.forIn_cons, List.forIn_nil]
  go_simp
@[go_sem] theorem eq_conds (a b c e : Bool) (w : World) : (Op.equalIn 10000 35 (.agg #[.bool a, .bool b, .bool c, .bool e]) (.agg #[.bool a, .bool b, .bool c, .bool e])).run Try.prog w = .ok true w := eq_b4 9998 a b c e w
@[go_sem] theorem eq_state (a b c e : Int) (f g h i : Bool) (w : World) : (Op.equalIn 10000 42 (.agg #[.int .i64 a, .int .i64 b, .int .i64 c, .int .i64 e, .bool f, .bool g, .bool h, .bool i]) (.agg #[.int .i64 a, .int .i64 b, .int .i64 c, .int .i64 e, .bool f, .bool g, .bool h, .bool i])).run Try.prog w = .ok true w := by
  have k1 := eq_b4 9997 f g h i
  have k2 := eq_i4 9997 a b c e
  have u4 := Try.isAgg22
  have u5 := Try.isAgg35
  have u6 := Try.sizeOf22
  have u7 := Try.sizeOf35
  have hS : Try.prog.underlying 42 = some (.struct (Try.prog.fieldsOf 42)) := by kernel_rfl
  have hp : Try.prog.stoodInHeld 42 = false := by kernel_rfl
  rw [show (10000 : Nat) = 9999 + 1 from rfl, run_equalIn_agg w 9999 42 _ _ hS hp]
  simp only [Program.fieldsOf, Try.underlying42]
  go_simp

theorem example_any (w : World) : Calls Try.prog 20 #[] w fun e w' => e = .returned (.agg #[.int .i64 30, .int .i64 10, .int .i64 100, .int .i64 5, .int .i64 50, .int .i64 1000, .int .i64 2, .int .i64 2, .int .i64 2, .int .i64 2]) ∧ w' = w.alloc (.cells #[.int .i64 30, .int .i64 10, .int .i64 100, .int .i64 5, .int .i64 50, .int .i64 1000, .int .i64 2, .int .i64 2, .int .i64 2, .int .i64 2] 24) := by
  go_enter Try.func20, Try.ntmps20
  go_wp2
  go_returns
  exact ⟨rfl, rfl⟩
set_option maxHeartbeats 4000000 in
theorem awake_true (w0 w : World) (hb : Gar w0 w) : Calls Try.prog 10 #[] w fun e w' => e = .returned (.bool true) ∧ Gar w0 w' := by
  refine on_gar hb ?_
  clear hb w0
  have e0 : q0 30 95 (-60) (-4) = true := by decide
  have e1 : lostB 10 100 95 (-60) (-4) = false := by decide
  have e2 : q2 5 50 100 0 = false := by decide
  have e3 : q3 1000 0 0 = false := by decide
  have s1 := fun w => step_ok 30 10 100 5 50 1000 2 2 2 2 0 0 0 0 false false false false 95 (-60) (-4) 100 0 0 0 (by decide) w w (Gar.refl _)
  have s2 := fun w => step_ok 30 10 100 5 50 1000 2 2 2 2 1 0 0 0 false false false false 95 (-60) (-4) 100 0 0 0 (by decide) w w (Gar.refl _)
  rw [e0, e1, e2, e3, show mF true 0 2 = 1 from by decide, show mF false 0 2 = 0 from by decide, show mG true false 0 2 = false from by decide, show mG false false 0 2 = false from by decide] at s1
  rw [e0, e1, e2, e3, show mF true 1 2 = 2 from by decide, show mF false 0 2 = 0 from by decide, show mG true false 1 2 = true from by decide, show mG false false 0 2 = false from by decide] at s2
  clear e0 e1 e2 e3
  go_enter Try.func10, Try.ntmps10
  go_wp2_with (fail)
  go_region_held3 (fun w' => w'.cell? ⟨w.heap.size, 0, none⟩ = some (.int .i64 95) ∧ w'.cell? ⟨w.heap.size, 1, none⟩ = some (.int .i64 (-60)) ∧ w'.cell? ⟨w.heap.size, 2, none⟩ = some (.int .i64 (-4)) ∧ w'.cell? ⟨w.heap.size, 3, none⟩ = some (.int .i64 100) ∧ w'.cell? ⟨w.heap.size, 4, none⟩ = some (.int .i64 0) ∧ w'.cell? ⟨w.heap.size, 5, none⟩ = some (.int .i64 0) ∧ w'.cell? ⟨w.heap.size, 6, none⟩ = some (.int .i64 0))
    ((refine ⟨?_, ?_, ?_, ?_, ?_, ?_, ?_⟩ <;> first | assumption | (simp; done) | go_simp))
    (first
      | (go_at_call 20; (with_reducible refine (example_any _).mono ?_); rintro e w' ⟨rfl, rfl⟩)
      | (go_at_call 16; (with_reducible refine (s1 _).mono ?_); rintro e w' ⟨rfl, os1, n1, rfl⟩)
    )
  all_goals
    go_wp2_with (fail)
    first
    | (go_region_held3 (fun w' => w'.cell? ⟨w.heap.size, 0, none⟩ = some (.int .i64 95) ∧ w'.cell? ⟨w.heap.size, 1, none⟩ = some (.int .i64 (-60)) ∧ w'.cell? ⟨w.heap.size, 2, none⟩ = some (.int .i64 (-4)) ∧ w'.cell? ⟨w.heap.size, 3, none⟩ = some (.int .i64 100) ∧ w'.cell? ⟨w.heap.size, 4, none⟩ = some (.int .i64 0) ∧ w'.cell? ⟨w.heap.size, 5, none⟩ = some (.int .i64 0) ∧ w'.cell? ⟨w.heap.size, 6, none⟩ = some (.int .i64 0) ∧ w'.cell? ⟨w.heap.size + 1, 0, none⟩ = some (.int .i64 1) ∧ w'.cell? ⟨w.heap.size + 1, 1, none⟩ = some (.int .i64 0) ∧ w'.cell? ⟨w.heap.size + 1, 2, none⟩ = some (.int .i64 0) ∧ w'.cell? ⟨w.heap.size + 1, 3, none⟩ = some (.int .i64 0) ∧ w'.cell? ⟨w.heap.size + 1, 4, none⟩ = some (.bool false) ∧ w'.cell? ⟨w.heap.size + 1, 5, none⟩ = some (.bool false) ∧ w'.cell? ⟨w.heap.size + 1, 6, none⟩ = some (.bool false) ∧ w'.cell? ⟨w.heap.size + 1, 7, none⟩ = some (.bool false))
         ((refine ⟨?_, ?_, ?_, ?_, ?_, ?_, ?_, ?_, ?_, ?_, ?_, ?_, ?_, ?_, ?_⟩ <;> first | assumption | (simp; done) | go_simp))
         (first
           | (go_at_call 20; (with_reducible refine (example_any _).mono ?_); rintro e w' ⟨rfl, rfl⟩)
           | (go_at_call 16; (with_reducible refine (s2 _).mono ?_); rintro e w' ⟨rfl, os2, n2, rfl⟩)
         ))
    | (go_region_held3 (fun w' => w'.cell? ⟨w.heap.size, 0, none⟩ = some (.int .i64 95) ∧ w'.cell? ⟨w.heap.size, 1, none⟩ = some (.int .i64 (-60)) ∧ w'.cell? ⟨w.heap.size, 2, none⟩ = some (.int .i64 (-4)) ∧ w'.cell? ⟨w.heap.size, 3, none⟩ = some (.int .i64 100) ∧ w'.cell? ⟨w.heap.size, 4, none⟩ = some (.int .i64 0) ∧ w'.cell? ⟨w.heap.size, 5, none⟩ = some (.int .i64 0) ∧ w'.cell? ⟨w.heap.size, 6, none⟩ = some (.int .i64 0) ∧ w'.cell? ⟨w.heap.size + 1 + 1, 0, none⟩ = some (.int .i64 1) ∧ w'.cell? ⟨w.heap.size + 1 + 1, 1, none⟩ = some (.int .i64 0) ∧ w'.cell? ⟨w.heap.size + 1 + 1, 2, none⟩ = some (.int .i64 0) ∧ w'.cell? ⟨w.heap.size + 1 + 1, 3, none⟩ = some (.int .i64 0) ∧ w'.cell? ⟨w.heap.size + 1 + 1, 4, none⟩ = some (.bool false) ∧ w'.cell? ⟨w.heap.size + 1 + 1, 5, none⟩ = some (.bool false) ∧ w'.cell? ⟨w.heap.size + 1 + 1, 6, none⟩ = some (.bool false) ∧ w'.cell? ⟨w.heap.size + 1 + 1, 7, none⟩ = some (.bool false))
         ((refine ⟨?_, ?_, ?_, ?_, ?_, ?_, ?_, ?_, ?_, ?_, ?_, ?_, ?_, ?_, ?_⟩ <;> first | assumption | (simp; done) | go_simp))
         (first
           | (go_at_call 20; (with_reducible refine (example_any _).mono ?_); rintro e w' ⟨rfl, rfl⟩)
           | (go_at_call 16; (with_reducible refine (s2 _).mono ?_); rintro e w' ⟨rfl, os2, n2, rfl⟩)
         ))
    | (go_region_held3 (fun w' => w'.cell? ⟨w.heap.size, 0, none⟩ = some (.int .i64 95) ∧ w'.cell? ⟨w.heap.size, 1, none⟩ = some (.int .i64 (-60)) ∧ w'.cell? ⟨w.heap.size, 2, none⟩ = some (.int .i64 (-4)) ∧ w'.cell? ⟨w.heap.size, 3, none⟩ = some (.int .i64 100) ∧ w'.cell? ⟨w.heap.size, 4, none⟩ = some (.int .i64 0) ∧ w'.cell? ⟨w.heap.size, 5, none⟩ = some (.int .i64 0) ∧ w'.cell? ⟨w.heap.size, 6, none⟩ = some (.int .i64 0) ∧ w'.cell? ⟨w.heap.size + 1 + 1 + os1.length, 0, none⟩ = some (.int .i64 1) ∧ w'.cell? ⟨w.heap.size + 1 + 1 + os1.length, 1, none⟩ = some (.int .i64 0) ∧ w'.cell? ⟨w.heap.size + 1 + 1 + os1.length, 2, none⟩ = some (.int .i64 0) ∧ w'.cell? ⟨w.heap.size + 1 + 1 + os1.length, 3, none⟩ = some (.int .i64 0) ∧ w'.cell? ⟨w.heap.size + 1 + 1 + os1.length, 4, none⟩ = some (.bool false) ∧ w'.cell? ⟨w.heap.size + 1 + 1 + os1.length, 5, none⟩ = some (.bool false) ∧ w'.cell? ⟨w.heap.size + 1 + 1 + os1.length, 6, none⟩ = some (.bool false) ∧ w'.cell? ⟨w.heap.size + 1 + 1 + os1.length, 7, none⟩ = some (.bool false))
         ((refine ⟨?_, ?_, ?_, ?_, ?_, ?_, ?_, ?_, ?_, ?_, ?_, ?_, ?_, ?_, ?_⟩ <;> first | assumption | (simp; done) | go_simp))
         (first
           | (go_at_call 20; (with_reducible refine (example_any _).mono ?_); rintro e w' ⟨rfl, rfl⟩)
           | (go_at_call 16; (with_reducible refine (s2 _).mono ?_); rintro e w' ⟨rfl, os2, n2, rfl⟩)
         ))
    all_goals
      go_wp2_with (fail)
      go_returns
      exact ⟨rfl, by repeat (first | exact Gar.refl _ | refine Gar.drewN ?_ _ | refine Gar.drew ?_ | refine Gar.alloc ?_ _ | refine Gar.allocs ?_ _)⟩
end Go.Proofs.Ytlppolaoigbkeaa
