/- awake of chapter 40; equal states and results. -/
import Derived.Test.YtdincfemiignjaaVotS
import Derived.Test.YtdincfemiignjaaVotB
import Derived.Laws.StructEq
namespace Go.Proofs.Ytdincfemiignjaa
open Go.RowKit
set_option linter.unusedVariables false
set_option linter.unusedSimpArgs false
attribute [local go_sem ↓] Go.wp_at_zero Go.wp_at_succ

theorem eq_b3 (d : Nat) (a b c : Bool) (w : World) : (Op.equalIn (d + 2) 25 (.agg #[.bool a, .bool b, .bool c]) (.agg #[.bool a, .bool b, .bool c])).run Try.prog w = .ok true w := by
  have u3 := Try.underlying4
  have a3 := Try.isAgg4
  have z3 := Try.sizeOf4
  rw [Op.equalIn]
  simp only [Sem.run_bind, run_underlying Try.underlying25, Result.andThen_ok]
  simp only [Std.Legacy.Range.forIn_eq_forIn_range', Std.Legacy.Range.size, Nat.sub_zero, Nat.add_sub_cancel, Nat.div_one, List.range'_succ, List.range'_zero, List.forIn_cons, List.forIn_nil]
  go_simp
@[go_sem] theorem eq_b3n (a b c : Bool) (w : World) : (Op.equalIn 9999 25 (.agg #[.bool a, .bool b, .bool c]) (.agg #[.bool a, .bool b, .bool c])).run Try.prog w = .ok true w := eq_b3 9997 a b c w
@[go_sem] theorem eq_b3t (a b c : Bool) (w : World) : (Op.equalIn 10000 25 (.agg #[.bool a, .bool b, .bool c]) (.agg #[.bool a, .bool b, .bool c])).run Try.prog w = .ok true w := eq_b3 9998 a b c w
theorem eq_i3 (d : Nat) (a b c : Int) (w : World) : (Op.equalIn (d + 2) 22 (.agg #[.int .i64 a, .int .i64 b, .int .i64 c]) (.agg #[.int .i64 a, .int .i64 b, .int .i64 c])).run Try.prog w = .ok true w := by
  have u3 := Try.underlying3
  have a3 := Try.isAgg3
  have z3 := Try.sizeOf3
  rw [Op.equalIn]
  simp only [Sem.run_bind, run_underlying Try.underlying22, Result.andThen_ok]
  simp only [Std.Legacy.Range.forIn_eq_forIn_range', Std.Legacy.Range.size, Nat.sub_zero, Nat.add_sub_cancel, Nat.div_one, List.range'_succ, List.range'_zero, List.forIn_cons, List.forIn_nil]
  go_simp
@[go_sem] theorem eq_i3n (a b c : Int) (w : World) : (Op.equalIn 9999 22 (.agg #[.int .i64 a, .int .i64 b, .int .i64 c]) (.agg #[.int .i64 a, .int .i64 b, .int .i64 c])).run Try.prog w = .ok true w := eq_i3 9997 a b c w
@[go_sem] theorem eq_i3t (a b c : Int) (w : World) : (Op.equalIn 10000 22 (.agg #[.int .i64 a, .int .i64 b, .int .i64 c]) (.agg #[.int .i64 a, .int .i64 b, .int .i64 c])).run Try.prog w = .ok true w := eq_i3 9998 a b c w
@[go_sem] theorem eq_vstate (a b c d : Int) (f g h : Bool) (w : World) : (Op.equalIn 10000 27 (.agg #[.int .i64 a, .int .i64 b, .int .i64 c, .bool f, .bool g, .bool h, .int .i64 d]) (.agg #[.int .i64 a, .int .i64 b, .int .i64 c, .bool f, .bool g, .bool h, .int .i64 d])).run Try.prog w = .ok true w := by
  have k1 := eq_b3 9997 f g h
  have k2 := eq_i3 9997 a b c
  have u4 := Try.isAgg22
  have u5 := Try.isAgg25
  have u6 := Try.sizeOf22
  have u7 := Try.sizeOf25
  have u8 := Try.isAgg3
  have u9 := Try.sizeOf3
  have uA := Try.underlying3
  have hS : Try.prog.underlying 27 = some (.struct (Try.prog.fieldsOf 27)) := by kernel_rfl
  have hp : Try.prog.stoodInHeld 27 = false := by kernel_rfl
  rw [show (10000 : Nat) = 9999 + 1 from rfl, run_equalIn_agg w 9999 27 _ _ hS hp]
  simp only [Program.fieldsOf, Try.underlying27]
  go_simp
@[go_sem] theorem eq_vres (a b : Int) (f g : Bool) (w : World) : (Op.equalIn 10000 32 (.agg #[.int .i64 a, .int .i64 b, .bool f, .bool g]) (.agg #[.int .i64 a, .int .i64 b, .bool f, .bool g])).run Try.prog w = .ok true w := by
  have u5 := Try.isAgg4
  have u7 := Try.sizeOf4
  have uB := Try.underlying4
  have u8 := Try.isAgg3
  have u9 := Try.sizeOf3
  have uA := Try.underlying3
  have hS : Try.prog.underlying 32 = some (.struct (Try.prog.fieldsOf 32)) := by kernel_rfl
  have hp : Try.prog.stoodInHeld 32 = false := by kernel_rfl
  rw [show (10000 : Nat) = 9999 + 1 from rfl, run_equalIn_agg w 9999 32 _ _ hS hp]
  simp only [Program.fieldsOf, Try.underlying32]
  go_simp

set_option maxHeartbeats 4000000 in
theorem awake_true (w0 w : World) (hb : Gar w0 w) : Calls Try.prog 8 #[] w fun e w' => e = .returned (.bool true) ∧ Gar w0 w' := by
  refine on_gar hb ?_
  clear hb w0
  have K1 := fun w => vstep_ok 10 10 10 0 1 2 5 0 0 0 false false false 0 100 105 5000 true true true true true true true false false 3 0 0 1 0 false false false 1 1 (by unfold VS; decide +kernel) (by decide +kernel) w w (Gar.refl _)
  have K2 := fun w => vstep_ok 10 10 10 0 1 2 5 0 0 0 false false false 0 100 105 40000 true true true true true true true false false 3 0 0 1 0 false false false 0 2 (by unfold VS; decide +kernel) (by decide +kernel) w w (Gar.refl _)
  have K3 := fun w => vbound_ok 10 10 10 0 1 2 5 0 0 0 false false false 0 100 105 40000 true true true true true true true false false 3 0 0 1 0 false false false 0 2 (by unfold VS; decide +kernel) (by decide +kernel) w w (Gar.refl _)
  rw [show (if (1 : Int) = 0 then (0 : Int) else vang 1 100 105 5000) = 105 from by decide, show decide ((1 : Int) = 3) = false from by decide, show decide ((1 : Int) = 0) = false from by decide] at K1
  rw [show (if (2 : Int) = 0 then (0 : Int) else vang 0 100 105 40000) = 100 from by decide, show decide ((2 : Int) = 3) = false from by decide, show decide ((2 : Int) = 0) = false from by decide] at K2
  rw [show vbnd 0 2 true false false 10 10 10 = 30 from by decide, show verr (berr 2) = Value.nilIface from rfl] at K3
  go_enter Try.func8, Try.ntmps8
  go_wp2_with (first | (go_at_call 9; (first | (with_reducible refine (K1 _).mono ?_) | (with_reducible refine (K2 _).mono ?_)); rintro e w' ⟨rfl, os1, n1, rfl⟩) | (go_at_call 10; (with_reducible refine (K3 _).mono ?_); rintro e w' ⟨rfl, os2, n2, rfl⟩))
  go_returns
  exact ⟨rfl, by repeat (first | exact Gar.refl _ | refine Gar.drewN ?_ _ | refine Gar.drew ?_ | refine Gar.alloc ?_ _ | refine Gar.allocs ?_ _)⟩
end Go.Proofs.Ytdincfemiignjaa
