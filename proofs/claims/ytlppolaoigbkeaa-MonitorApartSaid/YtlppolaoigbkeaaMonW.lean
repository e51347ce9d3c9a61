/- The contracts of monitor.Check and the reference's Check. -/
import Derived.Test.YtlppolaoigbkeaaMon
import Derived.Test.YtlppolaoigbkeaaAng
import Derived.Test.YtlppolaoigbkeaaNormW
import Derived.Test.YtlppolaoigbkeaaBase
import Derived.Test.YtlppolaoigbkeaaGar
namespace Go.Proofs.Ytlppolaoigbkeaa
open Go.RowKit
set_option linter.unusedVariables false

theorem within_any (n lo hi : Int) (w : World) : Calls Try.prog 21 #[.int .i64 n, .int .i64 lo, .int .i64 hi] w fun e w' => e = .returned (.bool (wi n lo hi)) ∧ w = w' := by
  by_cases h : wi n lo hi = true
  · obtain ⟨h1, h2⟩ := wi_in h
    rw [h]
    go_enter Try.func21, Try.ntmps21
    go_wp2
    go_returns
    exact ⟨rfl, rfl⟩
  · have h' : wi n lo hi = false := by simpa using h
    rw [h']
    rcases wi_out h' with g | ⟨g1, g2⟩
    · go_enter Try.func21, Try.ntmps21
      go_wp2
      go_returns
      exact ⟨rfl, rfl⟩
    · have g3 : decide (n ≤ hi) = false := decide_eq_false (by omega)
      go_enter Try.func21, Try.ntmps21
      go_wp2
      go_returns
      exact ⟨rfl, rfl⟩

theorem rwithin_any (n lo hi : Int) (w : World) : Calls Try.prog 22 #[.int .i64 n, .int .i64 lo, .int .i64 hi] w fun e w' => e = .returned (.bool (wi n lo hi)) ∧ w = w' := by
  by_cases h : wi n lo hi = true
  · obtain ⟨h1, h2⟩ := wi_in h
    rw [h]
    go_enter Try.func22, Try.ntmps22
    go_wp2
    go_returns
    exact ⟨rfl, rfl⟩
  · have h' : wi n lo hi = false := by simpa using h
    rw [h']
    rcases wi_out h' with g | ⟨g1, g2⟩
    · go_enter Try.func22, Try.ntmps22
      go_wp2
      go_returns
      exact ⟨rfl, rfl⟩
    · have g3 : decide (n ≤ hi) = false := decide_eq_false (by omega)
      go_enter Try.func22, Try.ntmps22
      go_wp2
      go_returns
      exact ⟨rfl, rfl⟩

set_option maxHeartbeats 1000000 in
theorem check_ok (c0 c1 c2 c3 c4 c5 c6 c7 c8 c9 : Int) (h : chkB c0 c1 c2 c3 c4 c5 c6 c7 c8 c9 = true) (w : World) : Calls Try.prog 12 #[.agg #[.int .i64 c0, .int .i64 c1, .int .i64 c2, .int .i64 c3, .int .i64 c4, .int .i64 c5, .int .i64 c6, .int .i64 c7, .int .i64 c8, .int .i64 c9]] w fun e w' => e = .returned (.nilIface) ∧ w' = w.alloc (.cells #[.int .i64 c0, .int .i64 c1, .int .i64 c2, .int .i64 c3, .int .i64 c4, .int .i64 c5, .int .i64 c6, .int .i64 c7, .int .i64 c8, .int .i64 c9] 24) := by
  obtain ⟨h0, h1, h2, h3, h4, h5, h6, h7, h8, h9⟩ := chk_in h
  clear h
  have i0 : ∀ w, (Instr.index 22 (.agg #[.int .i64 c6, .int .i64 c7, .int .i64 c8, .int .i64 c9]) (.int .i64 0)).run Try.prog w = .ok (.int .i64 c6) w := fun _ => by kernel_rfl
  have i1 : ∀ w, (Instr.index 22 (.agg #[.int .i64 c6, .int .i64 c7, .int .i64 c8, .int .i64 c9]) (.int .i64 1)).run Try.prog w = .ok (.int .i64 c7) w := fun _ => by kernel_rfl
  have i2 : ∀ w, (Instr.index 22 (.agg #[.int .i64 c6, .int .i64 c7, .int .i64 c8, .int .i64 c9]) (.int .i64 2)).run Try.prog w = .ok (.int .i64 c8) w := fun _ => by kernel_rfl
  have i3 : ∀ w, (Instr.index 22 (.agg #[.int .i64 c6, .int .i64 c7, .int .i64 c8, .int .i64 c9]) (.int .i64 3)).run Try.prog w = .ok (.int .i64 c9) w := fun _ => by kernel_rfl
  go_enter Try.func12, Try.ntmps12
  go_wp2_with (first | (go_at_call 21; (with_reducible refine (within_any _ _ _ _).mono ?_); rintro e w' ⟨rfl, rfl⟩))
  refine wp_loop_rounds 5 ?_
  repeat any_goals (rw [rounds_succ]; go_wp2_with (first | (go_at_call 21; (with_reducible refine (within_any _ _ _ _).mono ?_); rintro e w' ⟨rfl, rfl⟩)))
  go_returns
  exact ⟨rfl, rfl⟩

set_option maxHeartbeats 2000000 in
theorem check_bad (c0 c1 c2 c3 c4 c5 c6 c7 c8 c9 : Int) (h : chkB c0 c1 c2 c3 c4 c5 c6 c7 c8 c9 = false) (w : World) : Calls Try.prog 12 #[.agg #[.int .i64 c0, .int .i64 c1, .int .i64 c2, .int .i64 c3, .int .i64 c4, .int .i64 c5, .int .i64 c6, .int .i64 c7, .int .i64 c8, .int .i64 c9]] w fun e w' => e = .returned (.iface 59 (.int .i64 3)) ∧ w' = w.alloc (.cells #[.int .i64 c0, .int .i64 c1, .int .i64 c2, .int .i64 c3, .int .i64 c4, .int .i64 c5, .int .i64 c6, .int .i64 c7, .int .i64 c8, .int .i64 c9] 24) := by
  have i0 : ∀ w, (Instr.index 22 (.agg #[.int .i64 c6, .int .i64 c7, .int .i64 c8, .int .i64 c9]) (.int .i64 0)).run Try.prog w = .ok (.int .i64 c6) w := fun _ => by kernel_rfl
  have i1 : ∀ w, (Instr.index 22 (.agg #[.int .i64 c6, .int .i64 c7, .int .i64 c8, .int .i64 c9]) (.int .i64 1)).run Try.prog w = .ok (.int .i64 c7) w := fun _ => by kernel_rfl
  have i2 : ∀ w, (Instr.index 22 (.agg #[.int .i64 c6, .int .i64 c7, .int .i64 c8, .int .i64 c9]) (.int .i64 2)).run Try.prog w = .ok (.int .i64 c8) w := fun _ => by kernel_rfl
  have i3 : ∀ w, (Instr.index 22 (.agg #[.int .i64 c6, .int .i64 c7, .int .i64 c8, .int .i64 c9]) (.int .i64 3)).run Try.prog w = .ok (.int .i64 c9) w := fun _ => by kernel_rfl
  rcases chk_out h with h0 | ⟨h0, h1⟩ | ⟨h0, h1, h2⟩ | ⟨h0, h1, h2, h3⟩ | ⟨h0, h1, h2, h3, h4⟩ | ⟨h0, h1, h2, h3, h4, h5⟩ | ⟨h0, h1, h2, h3, h4, h5, h6⟩ | ⟨h0, h1, h2, h3, h4, h5, h6, h7⟩ | ⟨h0, h1, h2, h3, h4, h5, h6, h7, h8⟩ | ⟨h0, h1, h2, h3, h4, h5, h6, h7, h8, h9⟩
  · clear h
    go_enter Try.func12, Try.ntmps12
    go_wp2_with (first | (go_at_call 21; (with_reducible refine (within_any _ _ _ _).mono ?_); rintro e w' ⟨rfl, rfl⟩))
    go_returns
    exact ⟨rfl, rfl⟩
  · clear h
    go_enter Try.func12, Try.ntmps12
    go_wp2_with (first | (go_at_call 21; (with_reducible refine (within_any _ _ _ _).mono ?_); rintro e w' ⟨rfl, rfl⟩))
    go_returns
    exact ⟨rfl, rfl⟩
  · clear h
    go_enter Try.func12, Try.ntmps12
    go_wp2_with (first | (go_at_call 21; (with_reducible refine (within_any _ _ _ _).mono ?_); rintro e w' ⟨rfl, rfl⟩))
    go_returns
    exact ⟨rfl, rfl⟩
  · clear h
    go_enter Try.func12, Try.ntmps12
    go_wp2_with (first | (go_at_call 21; (with_reducible refine (within_any _ _ _ _).mono ?_); rintro e w' ⟨rfl, rfl⟩))
    go_returns
    exact ⟨rfl, rfl⟩
  · clear h
    go_enter Try.func12, Try.ntmps12
    go_wp2_with (first | (go_at_call 21; (with_reducible refine (within_any _ _ _ _).mono ?_); rintro e w' ⟨rfl, rfl⟩))
    go_returns
    exact ⟨rfl, rfl⟩
  · clear h
    go_enter Try.func12, Try.ntmps12
    go_wp2_with (first | (go_at_call 21; (with_reducible refine (within_any _ _ _ _).mono ?_); rintro e w' ⟨rfl, rfl⟩))
    go_returns
    exact ⟨rfl, rfl⟩
  · clear h
    go_enter Try.func12, Try.ntmps12
    go_wp2_with (first | (go_at_call 21; (with_reducible refine (within_any _ _ _ _).mono ?_); rintro e w' ⟨rfl, rfl⟩))
    refine wp_loop_rounds 5 ?_
    repeat any_goals (rw [rounds_succ]; go_wp2_with (first | (go_at_call 21; (with_reducible refine (within_any _ _ _ _).mono ?_); rintro e w' ⟨rfl, rfl⟩)))
    go_returns
    exact ⟨rfl, rfl⟩
  · clear h
    go_enter Try.func12, Try.ntmps12
    go_wp2_with (first | (go_at_call 21; (with_reducible refine (within_any _ _ _ _).mono ?_); rintro e w' ⟨rfl, rfl⟩))
    refine wp_loop_rounds 5 ?_
    repeat any_goals (rw [rounds_succ]; go_wp2_with (first | (go_at_call 21; (with_reducible refine (within_any _ _ _ _).mono ?_); rintro e w' ⟨rfl, rfl⟩)))
    go_returns
    exact ⟨rfl, rfl⟩
  · clear h
    go_enter Try.func12, Try.ntmps12
    go_wp2_with (first | (go_at_call 21; (with_reducible refine (within_any _ _ _ _).mono ?_); rintro e w' ⟨rfl, rfl⟩))
    refine wp_loop_rounds 5 ?_
    repeat any_goals (rw [rounds_succ]; go_wp2_with (first | (go_at_call 21; (with_reducible refine (within_any _ _ _ _).mono ?_); rintro e w' ⟨rfl, rfl⟩)))
    go_returns
    exact ⟨rfl, rfl⟩
  · clear h
    go_enter Try.func12, Try.ntmps12
    go_wp2_with (first | (go_at_call 21; (with_reducible refine (within_any _ _ _ _).mono ?_); rintro e w' ⟨rfl, rfl⟩))
    refine wp_loop_rounds 5 ?_
    repeat any_goals (rw [rounds_succ]; go_wp2_with (first | (go_at_call 21; (with_reducible refine (within_any _ _ _ _).mono ?_); rintro e w' ⟨rfl, rfl⟩)))
    go_returns
    exact ⟨rfl, rfl⟩

set_option maxHeartbeats 1000000 in
theorem rcheck_ok (c0 c1 c2 c3 c4 c5 c6 c7 c8 c9 : Int) (h : chkB c0 c1 c2 c3 c4 c5 c6 c7 c8 c9 = true) (w : World) : Calls Try.prog 13 #[.agg #[.int .i64 c0, .int .i64 c1, .int .i64 c2, .int .i64 c3, .int .i64 c4, .int .i64 c5, .int .i64 c6, .int .i64 c7, .int .i64 c8, .int .i64 c9]] w fun e w' => e = .returned (.int .i64 0) ∧ w' = w.alloc (.cells #[.int .i64 c0, .int .i64 c1, .int .i64 c2, .int .i64 c3, .int .i64 c4, .int .i64 c5, .int .i64 c6, .int .i64 c7, .int .i64 c8, .int .i64 c9] 24) := by
  obtain ⟨h0, h1, h2, h3, h4, h5, h6, h7, h8, h9⟩ := chk_in h
  clear h
  go_enter Try.func13, Try.ntmps13
  go_wp2_with (first | (go_at_call 22; (with_reducible refine (rwithin_any _ _ _ _).mono ?_); rintro e w' ⟨rfl, rfl⟩))
  refine wp_loop_rounds 5 ?_
  repeat any_goals (rw [rounds_succ]; go_wp2_with (first | (go_at_call 22; (with_reducible refine (rwithin_any _ _ _ _).mono ?_); rintro e w' ⟨rfl, rfl⟩)))
  go_returns
  exact ⟨rfl, rfl⟩

set_option maxHeartbeats 2000000 in
theorem rcheck_bad (c0 c1 c2 c3 c4 c5 c6 c7 c8 c9 : Int) (h : chkB c0 c1 c2 c3 c4 c5 c6 c7 c8 c9 = false) (w : World) : Calls Try.prog 13 #[.agg #[.int .i64 c0, .int .i64 c1, .int .i64 c2, .int .i64 c3, .int .i64 c4, .int .i64 c5, .int .i64 c6, .int .i64 c7, .int .i64 c8, .int .i64 c9]] w fun e w' => e = .returned (.int .i64 3) ∧ w' = w.alloc (.cells #[.int .i64 c0, .int .i64 c1, .int .i64 c2, .int .i64 c3, .int .i64 c4, .int .i64 c5, .int .i64 c6, .int .i64 c7, .int .i64 c8, .int .i64 c9] 24) := by
  rcases chk_out h with h0 | ⟨h0, h1⟩ | ⟨h0, h1, h2⟩ | ⟨h0, h1, h2, h3⟩ | ⟨h0, h1, h2, h3, h4⟩ | ⟨h0, h1, h2, h3, h4, h5⟩ | ⟨h0, h1, h2, h3, h4, h5, h6⟩ | ⟨h0, h1, h2, h3, h4, h5, h6, h7⟩ | ⟨h0, h1, h2, h3, h4, h5, h6, h7, h8⟩ | ⟨h0, h1, h2, h3, h4, h5, h6, h7, h8, h9⟩
  · clear h
    go_enter Try.func13, Try.ntmps13
    go_wp2_with (first | (go_at_call 22; (with_reducible refine (rwithin_any _ _ _ _).mono ?_); rintro e w' ⟨rfl, rfl⟩))
    go_returns
    exact ⟨rfl, rfl⟩
  · clear h
    go_enter Try.func13, Try.ntmps13
    go_wp2_with (first | (go_at_call 22; (with_reducible refine (rwithin_any _ _ _ _).mono ?_); rintro e w' ⟨rfl, rfl⟩))
    go_returns
    exact ⟨rfl, rfl⟩
  · clear h
    go_enter Try.func13, Try.ntmps13
    go_wp2_with (first | (go_at_call 22; (with_reducible refine (rwithin_any _ _ _ _).mono ?_); rintro e w' ⟨rfl, rfl⟩))
    go_returns
    exact ⟨rfl, rfl⟩
  · clear h
    go_enter Try.func13, Try.ntmps13
    go_wp2_with (first | (go_at_call 22; (with_reducible refine (rwithin_any _ _ _ _).mono ?_); rintro e w' ⟨rfl, rfl⟩))
    go_returns
    exact ⟨rfl, rfl⟩
  · clear h
    go_enter Try.func13, Try.ntmps13
    go_wp2_with (first | (go_at_call 22; (with_reducible refine (rwithin_any _ _ _ _).mono ?_); rintro e w' ⟨rfl, rfl⟩))
    go_returns
    exact ⟨rfl, rfl⟩
  · clear h
    go_enter Try.func13, Try.ntmps13
    go_wp2_with (first | (go_at_call 22; (with_reducible refine (rwithin_any _ _ _ _).mono ?_); rintro e w' ⟨rfl, rfl⟩))
    go_returns
    exact ⟨rfl, rfl⟩
  · clear h
    go_enter Try.func13, Try.ntmps13
    go_wp2_with (first | (go_at_call 22; (with_reducible refine (rwithin_any _ _ _ _).mono ?_); rintro e w' ⟨rfl, rfl⟩))
    refine wp_loop_rounds 5 ?_
    repeat any_goals (rw [rounds_succ]; go_wp2_with (first | (go_at_call 22; (with_reducible refine (rwithin_any _ _ _ _).mono ?_); rintro e w' ⟨rfl, rfl⟩)))
    go_returns
    exact ⟨rfl, rfl⟩
  · clear h
    go_enter Try.func13, Try.ntmps13
    go_wp2_with (first | (go_at_call 22; (with_reducible refine (rwithin_any _ _ _ _).mono ?_); rintro e w' ⟨rfl, rfl⟩))
    refine wp_loop_rounds 5 ?_
    repeat any_goals (rw [rounds_succ]; go_wp2_with (first | (go_at_call 22; (with_reducible refine (rwithin_any _ _ _ _).mono ?_); rintro e w' ⟨rfl, rfl⟩)))
    go_returns
    exact ⟨rfl, rfl⟩
  · clear h
    go_enter Try.func13, Try.ntmps13
    go_wp2_with (first | (go_at_call 22; (with_reducible refine (rwithin_any _ _ _ _).mono ?_); rintro e w' ⟨rfl, rfl⟩))
    refine wp_loop_rounds 5 ?_
    repeat any_goals (rw [rounds_succ]; go_wp2_with (first | (go_at_call 22; (with_reducible refine (rwithin_any _ _ _ _).mono ?_); rintro e w' ⟨rfl, rfl⟩)))
    go_returns
    exact ⟨rfl, rfl⟩
  · clear h
    go_enter Try.func13, Try.ntmps13
    go_wp2_with (first | (go_at_call 22; (with_reducible refine (rwithin_any _ _ _ _).mono ?_); rintro e w' ⟨rfl, rfl⟩))
    refine wp_loop_rounds 5 ?_
    repeat any_goals (rw [rounds_succ]; go_wp2_with (first | (go_at_call 22; (with_reducible refine (rwithin_any _ _ _ _).mono ?_); rintro e w' ⟨rfl, rfl⟩)))
    go_returns
    exact ⟨rfl, rfl⟩
end Go.Proofs.Ytlppolaoigbkeaa
