/- The contracts of the encoder's Check and of the reference's, clip, phase. -/
import Derived.Test.YtfigdflhegdjfaaAng
import Derived.Test.YtfigdflhegdjfaaBase
import Derived.Test.YtfigdflhegdjfaaGar
namespace Go.Proofs.Ytfigdflhegdjfaa
open Go.RowKit
set_option linter.unusedVariables false

/-- Is the configuration of the specified form? -/
def chkB (c p : Int) : Bool := decide (4 ≤ c ∧ c ≤ 16384 ∧ c % 4 = 0 ∧ 1 ≤ p ∧ p ≤ 64)
theorem chk_in {c p : Int} (h : chkB c p = true) : 4 ≤ c ∧ c ≤ 16384 ∧ c % 4 = 0 ∧ 1 ≤ p ∧ p ≤ 64 := by simpa [chkB] using h
theorem chk_out {c p : Int} (h : chkB c p = false) : (c < 4) ∨ (4 ≤ c ∧ 16384 < c) ∨ (4 ≤ c ∧ c ≤ 16384 ∧ c % 4 ≠ 0) ∨ (4 ≤ c ∧ c ≤ 16384 ∧ c % 4 = 0 ∧ p < 1) ∨ (4 ≤ c ∧ c ≤ 16384 ∧ c % 4 = 0 ∧ 1 ≤ p ∧ 64 < p) := by
  have h' : ¬ (4 ≤ c ∧ c ≤ 16384 ∧ c % 4 = 0 ∧ 1 ≤ p ∧ p ≤ 64) := by simpa [chkB] using h
  omega
theorem tm4 {c : Int} (h : 4 ≤ c) : c.tmod 4 = c % 4 := Int.tmod_eq_emod_of_nonneg (by omega)

theorem check_ok (c p : Int) (h : chkB c p = true) (w : World) : Calls Try.prog 12 #[.agg #[.int .i64 c, .int .i64 p]] w fun e w' => e = .returned (.nilIface) ∧ w' = w.alloc (.cells #[.int .i64 c, .int .i64 p] 23) := by
  obtain ⟨h1, h2, h3, h4, h5⟩ := chk_in h
  have h6 := tm4 h1
  rw [h3] at h6
  clear h h3
  go_enter Try.func12, Try.ntmps12
  go_wp2
  go_returns
  exact ⟨rfl, rfl⟩
theorem check_bad (c p : Int) (h : chkB c p = false) (w : World) : Calls Try.prog 12 #[.agg #[.int .i64 c, .int .i64 p]] w fun e w' => e = .returned (.iface 64 (.int .i64 3)) ∧ w' = w.alloc (.cells #[.int .i64 c, .int .i64 p] 23) := by
  rcases chk_out h with h1 | ⟨h1, h2⟩ | ⟨h1, h2, h3⟩ | ⟨h1, h2, h3, h4⟩ | ⟨h1, h2, h3, h4, h5⟩
  · clear h
    go_enter Try.func12, Try.ntmps12
    go_wp2
    go_returns
    exact ⟨rfl, rfl⟩
  all_goals
    have h6 := tm4 h1
    try rw [h3] at h6
    try (rw [← h6] at h3)
    clear h
    go_enter Try.func12, Try.ntmps12
    go_wp2
    go_returns
    exact ⟨rfl, rfl⟩
theorem rcheck_ok (c p : Int) (h : chkB c p = true) (w : World) : Calls Try.prog 13 #[.agg #[.int .i64 c, .int .i64 p]] w fun e w' => e = .returned (.int .i64 0) ∧ w' = w.alloc (.cells #[.int .i64 c, .int .i64 p] 23) := by
  obtain ⟨h1, h2, h3, h4, h5⟩ := chk_in h
  have h6 := tm4 h1
  rw [h3] at h6
  clear h h3
  go_enter Try.func13, Try.ntmps13
  go_wp2
  go_returns
  exact ⟨rfl, rfl⟩
theorem rcheck_bad (c p : Int) (h : chkB c p = false) (w : World) : Calls Try.prog 13 #[.agg #[.int .i64 c, .int .i64 p]] w fun e w' => e = .returned (.int .i64 3) ∧ w' = w.alloc (.cells #[.int .i64 c, .int .i64 p] 23) := by
  rcases chk_out h with h1 | ⟨h1, h2⟩ | ⟨h1, h2, h3⟩ | ⟨h1, h2, h3, h4⟩ | ⟨h1, h2, h3, h4, h5⟩
  · clear h
    go_enter Try.func13, Try.ntmps13
    go_wp2
    go_returns
    exact ⟨rfl, rfl⟩
  all_goals
    have h6 := tm4 h1
    try rw [h3] at h6
    try (rw [← h6] at h3)
    clear h
    go_enter Try.func13, Try.ntmps13
    go_wp2
    go_returns
    exact ⟨rfl, rfl⟩

/-- The phase of signals. -/
def phs (a b : Bool) : Int := if a && b then 2 else if a then 1 else if b then 3 else 0
theorem phase_any (a b z : Bool) (w : World) : Calls Try.prog 28 #[.agg #[.bool a, .bool b, .bool z]] w fun e w' => e = .returned (.int .i64 (phs a b)) ∧ w' = w.alloc (.cells #[.bool a, .bool b, .bool z] 34) := by
  cases a <;> cases b
  all_goals
    go_enter Try.func28, Try.ntmps28
    go_wp2
    go_returns
    exact ⟨rfl, rfl⟩
theorem eclip_any (n lo hi : Int) (h : lo ≤ hi) (w : World) : Calls Try.prog 29 #[.int .i64 n, .int .i64 lo, .int .i64 hi] w fun e w' => e = .returned (.int .i64 (clp n lo hi)) ∧ w = w' := by
  go_enter Try.func29, Try.ntmps29
  go_wp2
  all_goals
    go_returns
    exact ⟨ret_i (by unfold clp; (repeat' split) <;> omega), rfl⟩

theorem example_any (w : World) : Calls Try.prog 27 #[] w fun e w' => e = .returned (.agg #[.int .i64 16, .int .i64 2]) ∧ w' = w.alloc (.cells #[.int .i64 16, .int .i64 2] 23) := by
  go_enter Try.func27, Try.ntmps27
  go_wp2
  go_returns
  exact ⟨rfl, rfl⟩
end Go.Proofs.Ytfigdflhegdjfaa
